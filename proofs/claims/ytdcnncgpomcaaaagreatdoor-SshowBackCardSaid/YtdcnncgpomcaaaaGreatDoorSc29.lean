/- walk of snode.Deep -/
import Derived.Test.YtdcnncgpomcaaaaGreatDoorSc28
import Derived.Deep.Slices
import Derived.Deep.AppendLies
set_option maxRecDepth 100000
set_option maxHeartbeats 4000000
namespace Go.Proofs.YtdcnncgpomcaaaaGreatDoor
open Go.RowKit
def DpRel (ks:List Sn) (R:Nat) (w:World) (t q:Value) (wr:World):Prop :=
 ∃(k d:Nat),q=.int .i64 k∧t=.int .i64 d∧k≤ks.length∧d≤100000000∧Below w.heap.size w wr∧Hid (max d (Sn.deepL (ks.drop k))=R)
theorem uU:∀(N:Nat) (x:Sn),x.parts≤N→x.deep≤x.parts
 | 0,x,h=>by have:=Sn.parts_pos x;omega
 | N+1,.mk k t n hh u f o ks,h=>by
  have key:∀l:List Sn,Sn.partsL l≤N→Sn.deepL l≤Sn.partsL l:=by
   intro l;induction l with
   | nil=>intro _;simp [Sn.deepL]
   | cons y r ih =>
    intro hl;simp only [Sn.partsL] at hl;have h1:=uU N y gj;have h2:=ih gj;simp only [Sn.deepL,Sn.partsL];omega
  simp only [Sn.parts] at h;have:=key ks gj
  simp only [Sn.deep,Sn.parts];split<;>omega
theorem tM:∀l:List Sn,Sn.deepL l≤Sn.partsL l
 | []=>by simp [Sn.deepL]
 | x::r=>by have:=uU _ x (Ia _);have:=tM r;simp only [Sn.deepL,Sn.partsL];omega
theorem qW (S:Nat→Prop):∀(N:Nat) (ks:List Sn),Sn.partsL ks<N→Sn.partsL ks≤1000000→∀(a:Option Addr) (c:Nat) (w:World),SnSl w S a ks.length ks →
  Calls Tryz.prog 15 #[.slice a ks.length c] w fun e w'=>e=.returned (.int .i64 (Sn.deepL ks))∧Below w.heap.size w w'
 | 0,ks,h,_,_,_,_,_=>by omega
 | N+1,ks,h,hm,a,c,w,hx=>by
  have hlen:=Sn.len_parts ks;have hdl:=tM ks;have ih:=fun(y:Sn) (hy:y.parts≤Sn.partsL ks)=>qW S N y.kids iX iX
  have IH:=ab ih;have HX:=ab hx;obtain⟨R,hR⟩:∃R,Sn.deepL ks=R:=⟨_,rfl⟩;have HR0:Hid (max 0 (Sn.deepL (ks.drop 0))=R):=ab (by simpa using hR);have hR6:R≤1000000:=gj;rw [hR];clear hR hx ih hdl;go_enter Tryz.func15,Tryz.ntmps15
  go_wp2
  go_loopw [3,9] (fun t q wr=>DpRel ks R w t q wr) (fun _ q _=>ks.length-(intOf q).toNat)
  case atStart=>exact⟨0,0,rfl,rfl,by omega,by omega,Below.refl _ _,HR0⟩
  case round =>
   obtain⟨i,d,rfl,rfl,hi,hd9,hb,HF⟩:=hrel;clear HR0;have hB:=hb.size;cases hd:ks.drop i with
   | nil =>
    have h2:ks.length≤i:=gX;have HE:Hid (d=R):=ab (by rw [←HF.out,hd];simp [Sn.deepL]);clear hd HF;go_wp2
    go_ret
    exact⟨mX (by have:=HE.out;omega),hb⟩
   | cons y r =>
    obtain⟨h2,h3,hr⟩:=kV hd;obtain⟨yk,yt,yn,yh,yu,yf,yo,ys⟩:=y;have hyp:=Sn.parts_mem (In h3);obtain⟨b,o,cc,rfl,hS,hbB,hyv,hcc⟩:=(HX.out.later hb).at_ h3;have hrg:wr.rangeAt b (o+i*18) cc:=fun j v hj=>by rw [IJ];exact hcc j v hj
    have hcl:=hyv.len;obtain⟨fc,oa,oc,ka,kc,hA⟩:=hyv.at_;have Hr:=ab hr;have HE:Hid (max d (max (Sn.deepL ys+(if yh then 1 else 0)) (Sn.deepL r))=R):=ab ic;obtain⟨W5,hW5⟩:∃W5,W5=wr.alloc (.cells cc.toArray 44):=⟨_,rfl⟩;have HW5:Hid ((wr.alloc (.cells #[.int .i64 0,.string ⟨#[]⟩,.int .i64 0,.bool false,.bool false,.int .i64 0,.string ⟨#[]⟩,.bool false,.slice none 0 0,.int .i64 0,.int .i64 0,.bool false,.slice none 0 0,.slice none 0 0,.bool false,.bool false,.slice none 0 0,.slice none 0 0] 44)).setRow wr.heap.size cc.toArray=W5):=ab gS;have hb5:Below wr.heap.size wr W5:=by rw [hW5];exact(Below.refl _ _).alloc (Ia _) _
    have HBX:Hid (W5.heap[wr.heap.size]?=some (.cells cc.toArray 44 (0,0))):=ab iK;have HIH:Hid (Calls Tryz.prog 15 #[.slice ka ys.length kc] W5 fun e w'=>e=.returned (.int .i64 (Sn.deepL ys))∧Below W5.heap.size W5 w'):=ab (IH.out _ hyp ka kc W5 (hA.kv.later hb5));obtain⟨_,_,_,k3,_,_,k17,_⟩:=hA.box HBX.out;have HA:=ab hA;have HONE:Hid (∀u∈cc.toArray.toList,u.oneCell'=true):=ab (fun u hu=>hyv.one u iD);have hle:max d (Sn.deepL ys+(if yh then 1 else 0))≤R:=by have:=HE.out;omega
    clear hd HF hr h3 hyv hcc hW5 hA;cases yh with
    | true =>
     simp only [if_true] at hle;go_wp2_with (first
      | (refine kA rfl 44 (.tmp 11) rfl b (o+i*18) rfl cc _ hrg kC rfl gG ?_)
      | (refine kK rfl 44 (.tmp 5) (.tmp 12) rfl (wr.heap.size) (cc.toArray) rfl rfl 44 (#[.int .i64 0,.string ⟨#[]⟩,.int .i64 0,.bool false,.bool false,.int .i64 0,.string ⟨#[]⟩,.bool false,.slice none 0 0,.int .i64 0,.int .i64 0,.bool false,.slice none 0 0,.slice none 0 0,.bool false,.bool false,.slice none 0 0,.slice none 0 0]) (heap_alloc_new wr _) (kF) ii rfl (HONE.out) (W:=W5) (HW5.out) ?_)
      | (go_at_call 15;refine HIH.out.mono ?_;rintro e w1 ⟨rfl,hb1⟩;have hx1:=(hb1.block _ (ky HBX.out)).trans HBX.out;obtain⟨_,_,_,k31,_,_,_,_⟩:=HA.out.box hx1))
     go_roundw
     case rel=>exact⟨i+1,(max d (Sn.deepL ys+1)),by go_num,(by first|(simp;omega)|(simp;split<;>omega)),by omega,by omega,(hb.trans (hb5.mono hB)).trans (hb1.mono (Ib hB hb5.size)),ab iH⟩
     case measure=>simp [intOf];omega
    | false =>
     simp only [IF,if_false,Nat.add_zero] at hle;go_wp2_with (first
      | (refine kA rfl 44 (.tmp 11) rfl b (o+i*18) rfl cc _ hrg kC rfl gG ?_)
      | (refine kK rfl 44 (.tmp 5) (.tmp 12) rfl (wr.heap.size) (cc.toArray) rfl rfl 44 (#[.int .i64 0,.string ⟨#[]⟩,.int .i64 0,.bool false,.bool false,.int .i64 0,.string ⟨#[]⟩,.bool false,.slice none 0 0,.int .i64 0,.int .i64 0,.bool false,.slice none 0 0,.slice none 0 0,.bool false,.bool false,.slice none 0 0,.slice none 0 0]) (heap_alloc_new wr _) (kF) ii rfl (HONE.out) (W:=W5) (HW5.out) ?_)
      | (go_at_call 15;refine HIH.out.mono ?_;rintro e w1 ⟨rfl,hb1⟩;have hx1:=(hb1.block _ (ky HBX.out)).trans HBX.out;obtain⟨_,_,_,k31,_,_,_,_⟩:=HA.out.box hx1))
     go_roundw
     case rel=>exact⟨i+1,(max d (Sn.deepL ys)),by go_num,(by first|(simp;omega)|(simp;split<;>omega)),by omega,by omega,(hb.trans (hb5.mono hB)).trans (hb1.mono (Ib hB hb5.size)),ab iH⟩
     case measure=>simp [intOf];omega
open Go.RowKit
def rZ:List (Str × Str)→Int→Option Int
 | [],n=>some n
 | r::rs,n=>if n≤r.1.length∨n≤r.2.length then none else rZ rs (n-1-r.1.length-r.2.length)
namespace Rx
mutual
def left:Rx→Int→Int
 | mk _ c _ rs _ _ _ ks,n=>if n≤c.length∨n≤rs.length∨n≤ks.length then -1 else
  (match rZ rs (n-1-c.length) with
   | none=>-1
   | some m=>leftK ks m)
def leftK:List Rx→Int→Int
 | [],n=>n
 | x::r,n=>if n<0 then n else leftK r (left x n)
end
end Rx
open Go.ChangeShapes Go.WideShapes Go.RowKit
theorem Sl.slAny {w:World} {a:Option Addr} {sz n:Nat} {cs:List Value} (h:Sl w w.heap.size a sz n cs):SlS w Any a sz n cs :=
 (h.slS (Ia _)).mono fun _ _ _=>trivial
section
variable {H:Type} {enc:TypeId × Value→H} {w:World} {spare:Nat→Bool} {held:Bool}
end
open Go.RowKit
def vY (f:Tf) (n:Int):Int:=if f.rx.left n<0 then f.rx.left n else pT f.fs (f.rx.left n)
open Go.RowKit
def rL:List Str→Int→Option Int
 | [],n=>some n
 | s::r,n=>if n≤s.length then none else rL r (n-1-s.length)
namespace Sn
mutual
def left:Sn→Int→Int
 | mk _ t _ _ _ f o ks,n=>if n≤t.length∨n≤o.length then -1 else
  (match rL o (vY f (n-1-t.length)) with
   | none=>-1
   | some m=>if m<0 then m else leftL ks m)
def leftL:List Sn→Int→Int
 | [],n=>n
 | x::r,n=>if n<0 then n else leftL r (left x n)
end
end Sn
def rwt:List (Str × Str)→Nat
 | []=>0
 | r::rs=>1+r.1.length+r.2.length+rwt rs
namespace Rx
mutual
def wt:Rx→Nat
 | mk _ c _ rs _ _ _ ks=>1+c.length+rwt rs+wtL ks
def wtL:List Rx→Nat
 | []=>0
 | x::r=>wt x+wtL r
end
end Rx
theorem uk:∀(N:Nat) (x:Rx),x.parts≤N→x.parts≤x.wt
 | 0,x,h=>by have:=Rx.parts_pos x;omega
 | N+1,.mk k c ng rs lo hi lz ks,h=>by
  simp only [Rx.parts] at h;have hk:∀(l:List Rx),Rx.partsL l≤N→Rx.partsL l≤Rx.wtL l:=by
   intro l;induction l with
   | nil=>intro _;simp [Rx.partsL,Rx.wtL]
   | cons x r ih =>
    intro hm;simp only [Rx.partsL] at hm;simp only [Rx.partsL,Rx.wtL];have:=uk N x gj
    have:=ih gj
    omega
  have:=hk ks gj
  simp only [Rx.parts,Rx.wt];omega
theorem Gp:∀{rs:List (Str × Str)},rs.length≤rwt rs∧∀r∈rs,r.1.length≤rwt rs∧r.2.length≤rwt rs
 | []=>by simp [rwt]
 | r::rs=>by
  obtain⟨h1,h2⟩:=Gp (rs:=rs);simp only [rwt,H7];exact cI
theorem xJ:∀(N:Nat) (x:Rx),x.parts≤N→x.wt≤1000000→x.small
 | 0,x,h,_=>by have:=Rx.parts_pos x;omega
 | N+1,.mk k c ng rs lo hi lz ks,h,hw=>by
  simp only [Rx.parts] at h;simp only [Rx.wt] at hw;have hk:∀(l:List Rx),Rx.partsL l≤N→Rx.wtL l≤1000000→Rx.smallL l:=by
   intro l;induction l with
   | nil=>intro _ _;simp [Rx.smallL]
   | cons x r ih =>
    intro hm hw;simp only [Rx.partsL] at hm;simp only [Rx.wtL] at hw;simp only [Rx.smallL];exact⟨xJ N x gj gj,ih gj gj⟩
  obtain⟨r1,r2⟩:=Gp (rs:=rs);have hl:=Rx.len_parts ks;have hp:Rx.partsL ks≤Rx.wtL ks:=by
   have:=uk _ (.mk k [] ng [] lo hi lz ks) (Ia _)
   simp only [Rx.parts,Rx.wt,rwt,IE] at this;omega
  simp only [Rx.small,Rx.small1];refine⟨⟨by omega,by omega,fun r hr=>?_,by omega⟩,hk ks gj gj⟩;have:=r2 r hr;omega
theorem C3:∀(rs:List (Str × Str)),(rs.flatMap rowS).length≤3*rwt rs
 | []=>by simp
 | r::rs=>by
  have ih:=C3 rs;have h1:=rD th2 r.1;have h2:=rD th2 r.2;have h3:(rowS r).length≤r.1.length+1+(r.2.length+2):=by
   unfold rowS;split<;>simp<;>omega
  rw [If,Ig];simp only [rwt];omega
theorem xU:∀(N:Nat) (x:Rx),x.parts≤N→x.wf=true→x.tell.length+1≤15*x.wt
 | 0,x,h,_=>by have:=Rx.parts_pos x;omega
 | N+1,.mk k c ng rs lo hi lz ks,h,hwf=>by
  obtain⟨hf,hwl⟩:=wf_mk hwf;simp only [Rx.parts] at h;have hk:∀(l:List Rx),Rx.partsL l≤N→Rx.wfL l=true→(Rx.tellL l).length≤15*Rx.wtL l∧∀b,(Rx.tellA b l).length≤15*Rx.wtL l:=by
   intro l;induction l with
   | nil=>intro _ _;simp [Rx.tellL,Rx.tellA,Rx.wtL]
   | cons x r ih =>
    intro hm hw;simp only [Rx.partsL] at hm;simp only [Rx.wfL,Ie] at hw;have h1:=xU N x gj hw.1;obtain⟨h2,h3⟩:=ih gj hw.2;simp only [Rx.tellL,Rx.tellA,Rx.wtL,Ig];refine⟨by omega,fun b=>?_⟩;have h4:=h3 true;cases b<;>simp<;>omega
  obtain⟨h1,h2⟩:=hk ks gj hwl;have h3:=h2 false;have e1:=rD th1 c;have e2:=C3 rs;simp only [Rx.wt];rcases A8 hf with rfl|rfl|rfl|rfl|rfl|rfl|rfl|rfl|rfl|rfl|rfl|rfl
  ·simp [Rx.tell];omega
  ·simp [Rx.tell];omega
  ·simp [Rx.tell];omega
  ·simp [Rx.tell];omega
  ·simp only [Rx.tell]
   rw [Hx gv,Hx gv,Hx gv,Hx gv,Hx gv,Hx gv,Hx gv,Hx gv,Hu trivial];unfold setS;cases ng<;>simp only [IF,if_false,if_true,H7,Ig,IE]<;>omega
  ·simp [Rx.tell];omega
  ·simp [Rx.tell];omega
  ·simp only [lf] at hf
   rw [Hx gv,Hx gv,Hu trivial] at hf;simp only [Ie,Hs] at hf;have h5:=oftS_len hf.2.1 hf.2.2.1 hf.2.2.2;cases lz<;>simp [Rx.tell]<;>omega
  ·simp [Rx.tell];omega
  ·simp [Rx.tell];omega
  ·simp [Rx.tell];omega
  ·simp [Rx.tell];omega
theorem CV {f:Fm} (hm:mayF f=true):(ox f).length≤2*(f.thn.length+f.els.length)+22:=by
 exact cF
theorem zm (f:Tf):(zh f).length≤2:=by unfold zh;(repeat' split)<;>simp
def pb:List Str→Nat
 | []=>0
 | a::l=>2*a.length+1+pb l
theorem vR:∀l:List Str,(oZ l).length≤pb l
 | []=>by simp [oZ]
 | [a]=>by have:=nj fiveS a;simp only [oZ,pb];omega
 | a::b::l=>by
  have h1:=nj fiveS a;have h2:=vR (b::l);simp only [oZ,pb,Ig,H7] at h2 ⊢;omega
def fwt:List Fm→Nat
 | []=>0
 | f::r=>1+f.thn.length+f.els.length+fwt r
def owt:List Str→Nat
 | []=>0
 | s::r=>1+s.length+owt r
def BR (f:Tf):Nat:=f.rx.wt+fwt f.fs
namespace Sn
mutual
def wt:Sn→Nat
 | mk _ t _ _ _ f o ks=>1+t.length+BR f+owt o+wtL ks
def wtL:List Sn→Nat
 | []=>0
 | x::r=>wt x+wtL r
end
end Sn
theorem Bb:∀{fs:List Fm},fs.length≤fwt fs∧∀f∈fs,f.thn.length≤fwt fs∧f.els.length≤fwt fs
 | []=>by simp [fwt]
 | f::r=>by
  obtain⟨h1,h2⟩:=Bb (fs:=r);simp only [fwt,H7];exact cI
theorem AQ:∀{o:List Str},o.length≤owt o∧∀s∈o,s.length≤owt o
 | []=>by simp [owt]
 | s::r=>by
  obtain⟨h1,h2⟩:=AQ (o:=r);simp only [owt,H7];exact cI
theorem Aw:∀(N:Nat) (x:Sn),x.parts≤N→x.parts≤x.wt
 | 0,x,h=>by have:=Sn.parts_pos x;omega
 | N+1,.mk k t n hh u f o ks,h=>by
  simp only [Sn.parts] at h;have hk:∀(l:List Sn),Sn.partsL l≤N→Sn.partsL l≤Sn.wtL l:=by
   intro l;induction l with
   | nil=>intro _;simp [Sn.partsL,Sn.wtL]
   | cons x r ih =>
    intro hm;simp only [Sn.partsL] at hm;simp only [Sn.partsL,Sn.wtL];have:=Aw N x gj
    have:=ih gj
    omega
  have:=hk ks gj
  simp only [Sn.parts,Sn.wt];omega
theorem mN:∀l:List Sn,Sn.partsL l≤Sn.wtL l
 | []=>by simp [Sn.partsL,Sn.wtL]
 | x::r=>by have:=Aw _ x (Ia _);have:=mN r;simp only [Sn.partsL,Sn.wtL];omega
theorem wj {f:Tf} (h:BR f≤1000000):f.small:=by
 unfold BR at h;have h1:=uk _ f.rx (Ia _);have h2:=(Bb (fs:=f.fs)).1;exact⟨xJ _ f.rx (Ia _) gj,by omega,by omega⟩
theorem AB:∀{fs:List Fm},(∀f∈fs,mayF f=true)→(mt fs).length≤22*fwt fs
 | [],_=>by simp [mt]
 | f::r,h=>by
  have h1:=CV (h f (Ik ..));have h2:=AB (fs:=r) (fun g hg=>h g (Il _ hg));have e:mt (f::r)=ox f++mt r:=by simp [mt]
  rw [e,Ig];simp only [fwt];omega
theorem G5 {fs:List Fm} (h:tO fs=true):(mt fs).length≤22*fwt fs:=AB (xO _ _ h)
theorem zC {f:Tf} (h:oY f=true∨tfZ f=true):f.rx.tell.length≤15*f.rx.wt∧(mt f.fs).length≤22*fwt f.fs:=by
 rcases h with h|h
 ·unfold oY at h
  rw [Ie] at h;have hwf:f.rx.wf=true:=by
   have h:=h.1;simp only [mayB,okB,Ie] at h;exact h.1.1
  have:=xU _ f.rx (Ia _) hwf
  exact⟨by omega,G5 h.2⟩
 ·unfold tfZ at h
  rw [Ie,Ie,List.isEmpty_iff] at h;obtain⟨X,fs,fd,al⟩:=f;obtain⟨hz,hfs,_⟩:=h;obtain rfl:fs=[]:=hfs;obtain rfl:X=rx0:=by
   obtain⟨k,c,ng,rs,lo,hi,lz,ks⟩:=X;have hz':rxZ (.mk k c ng rs lo hi lz ks)=true:=hz;simp only [rxZ,Ie,Hs,List.isEmpty_iff,IP] at hz';obtain⟨rfl,rfl,rfl,rfl,rfl,rfl,rfl,rfl⟩:=hz';rfl
  exact⟨(by decide:(rx0.tell).length≤15*rx0.wt),by simp [mt]⟩
theorem Cr {x:Sn} (h:lv x=true):oY x.form=true∨tfZ x.form=true:=by
 unfold lv nk at h;split at h
 ·split at h
  ·cases h
  ·exact .inr h
 ·split at h
  ·rw [Ie] at h;exact .inl h.2
  ·simp only [Ie] at h;exact .inr h.2.2.2
theorem vi {x:Sn} (h:l6 x=true):oY x.form=true∨tfZ x.form=true:=by
 unfold l6 at h;split at h
 ·unfold nk at h;simp only [Ie] at h;exact .inr h.2.2.2.2.2.2
 split at h
 ·simp only [Ie] at h;exact Cr h.2.2.2
 split at h
 ·unfold nk at h;simp only [Ie] at h;exact .inr h.2.2.2.2.2.2
 split at h
 ·simp only [Ie] at h;exact Cr h.2.2.2
 ·cases h
theorem Au {k:Int} {t:Str} {n:Int} {u:Bool} {f:Tf} {o:List Str} {ks:List Sn} (hf:l6 (.mk k t n false u f o ks)=true):Sn.wfL ks=true:=by
 rw [vj hf];rfl
mutual
theorem tinyS_wt:∀x:Sn,x.wf=true→x.wt≤1000→x.tiny
 | .mk k t n h u f o ks,hw,hwt=>by
  simp only [Sn.wt] at hwt;rw [Sn.wf,Ie] at hw;have hwl:Sn.wfL ks=true:=by
   exact dq
  obtain⟨f1,f2⟩:=zC (vi hw.1);have f1':f.rx.tell.length≤15*f.rx.wt:=f1;have f2':(mt f.fs).length≤22*fwt f.fs:=f2;obtain⟨o1,o2⟩:=AQ (o:=o);obtain⟨g1,g2⟩:=Bb (fs:=f.fs);have h2:=Sn.len_parts ks;have h3:=mN ks;have hfw:BR f=f.rx.wt+fwt f.fs:=rfl;simp only [Sn.tiny];refine⟨⟨wj gj,by omega,fun g hg=>?_,by omega,by omega⟩,by omega,by omega,fun s hs=>?_,by omega,nB ks hwl gj⟩
  ·have:=g2 g hg;omega
  ·have:=o2 s hs;omega
theorem nB:∀l:List Sn,Sn.wfL l=true→Sn.wtL l≤1000→Sn.tinyL l
 | [],_,_=>trivial
 | x::r,hw,hwt=>by
  simp only [Sn.wfL,Ie] at hw;simp only [Sn.wtL] at hwt;simp only [Sn.tinyL];exact⟨tinyS_wt x hw.1 gj,nB r hw.2 gj⟩
end
open Go.RowKit
theorem CX (B g:Nat) (htb:1<B):∀(N:Nat) (ks:List Sn),Sn.partsL ks<N→Sn.tinyL ks→ks.length≤1000000→Sn.wfL ks=true→ShwC B g ks
 | 0,ks,h,_,_,_=>by omega
 | N+1,ks,h,hti,hkl,hwf=>DI B g ks hti hkl hwf htb (fun y hy hh=>by
   have h1:=Sn.parts_mem hy;have h2:=qE hti y hy;have h3:=xR hwf y hy;obtain⟨yk,yt,yn,yh,yu,yf,yo,ys⟩:=y;simp only [Sn.tiny] at h2;obtain⟨_,_,_,_,h5,h6⟩:=h2;simp only [Sn.parts] at h1;obtain rfl:yh=true:=hh;rw [Sn.wf,Ie,Bool.not_true,Bool.false_or,Ie] at h3;exact CX B g htb N ys gj h6 h5 h3.2.2)
theorem np (S:Nat→Prop) (ks:List Sn) (hti:Sn.tinyL ks) (hkl:ks.length≤1000000) (hm:oB ks=true) (hl:(Sn.tellL ks).length≤10000000) (a:Option Addr) (c:Nat) (w:World) (hS:∀b,S b→b<w.heap.size) (ht:Tab w) (hx:SnSl w S a ks.length ks) :
  Calls Tryz.prog 10 #[.slice a ks.length c] w fun e w'=>e=.returned (.tuple #[.string ⟨(Sn.tellL ks).toArray⟩,.int .i64 0])∧Below w.heap.size w w':=by
 have HM:=ab (oG S ks (oQ ks hti) hkl a c w hx);rw [hm] at HM;have hwf:Sn.wfL ks=true:=by
  unfold oB at hm;rw [Ie,Ie] at hm;exact hm.1.2
 have htb:=ht.lt;have HSH:=ab (fun g=>CX w.heap.size g htb (Sn.partsL ks+1) ks gj hti hkl hwf);have HX:=ab hx;have HT:=ab ht;have HS:=ab hS;clear hx hm hti hwf ht hS;go_enter Tryz.func10,Tryz.ntmps10
 go_wp2_with (go_at_call 11;refine HM.out.mono ?_)
 first|rintro e w1 rfl hb1|rintro e w1 ⟨rfl,hb1⟩
 have hb2:Below w1.heap.size w1 (w1.alloc (.cells #[.pointer none,.slice none 0 0] 54)):=(Below.refl _ _).alloc (Ia _) _;have hbw:=bel2 hb1 hb2;have HC:=ab (HSH.out w1.heap.size S a c [] _ (Bld.fresh w.heap.size w1 hb1.size) ((HT.out.keep hb1).keep hb2) hbw.size HS.out ((HX.out.later hb1).later hb2) jC);rw [Iz] at HC;have HBW:=ab hbw;have hz1:=hb1.size;clear hb1 hb2 hbw;go_wp2_with (go_at_call 20;refine HC.out.mono ?_)
 first|rintro e w3 rfl hbl3 hfr3|rintro e w3 ⟨rfl,hbl3,hfr3⟩
 have hb3:=HBW.out.trans (hfr3.below gD (by simpa using hz1));have HB3:=ab hb3;have hsz3:=hb3.size;clear hfr3 hb3;go_wp2_with (go_at_call 21;refine(rC _ _ _ _ hbl3 hsz3).mono ?_)
 first|rintro e w4 rfl hb4|rintro e w4 ⟨rfl,hb4⟩
 go_wp2
 go_ret2
 exact⟨rfl,HB3.out.trans hb4⟩
open Go.RowKit
def awA:Sn:=.mk 1 [] 1 true false tf0 [] [o7 [97,125]]
def awB:Sn:=.mk 2 [] 2 false false tf0 [[97],[98,44,99]] []
def awT:Str:=[36,123,49,58,97,92,125,125,36,123,50,124,97,44,98,92,44,99,124,125]
theorem Ay:Sn.tellL [awA,awB]=awT:=by kernel_rfl
theorem awAB_may:oB [awA,awB]=true:=by kernel_rfl
theorem awAB_wf:Sn.wfL [awA,awB]=true:=by kernel_rfl
theorem awAB_wt:Sn.wtL [awA,awB]≤1000:=by decide
def awK1:Obj:=.cells #[.int .i64 0,.string ⟨([97,125]).toArray⟩,.int .i64 0,.bool false,.bool false,.int .i64 0,.string ⟨#[]⟩,.bool false,.slice none 0 0,.int .i64 0,.int .i64 0,.bool false,.slice none 0 0,.slice none 0 0,.bool false,.bool false,.slice none 0 0,.slice none 0 0] 44
def awK2:Obj:=.cells #[.string ⟨([97]).toArray⟩,.string ⟨([98,44,99]).toArray⟩] 9
def awK3 (b:Nat):Obj:=.cells #[.int .i64 1,.string ⟨[].toArray⟩,.int .i64 1,.bool true,.bool false,.int .i64 0,.string ⟨#[]⟩,.bool false,.slice none 0 0,.int .i64 0,.int .i64 0,.bool false,.slice none 0 0,.slice none 0 0,.bool false,.bool false,.slice none 0 0,.slice (some ⟨b,0,none⟩) 1 1,.int .i64 2,.string ⟨[].toArray⟩,.int .i64 2,.bool false,.bool false,.int .i64 0,.string ⟨#[]⟩,.bool false,.slice none 0 0,.int .i64 0,.int .i64 0,.bool false,.slice none 0 0,.slice none 0 0,.bool false,.bool false,.slice (some ⟨b+1,0,none⟩) 2 2,.slice none 0 0] 44
def awSW (w:World):World:=((w.alloc awK1).alloc awK2).alloc (awK3 w.heap.size)
theorem Dn (w:World):Below w.heap.size w (awSW w):=(((Below.refl _ _).alloc (Ia _) _).alloc gz _).alloc gD _
theorem awSW_v (w:World):SnSl (awSW w) Any (some ⟨w.heap.size+2,0,none⟩) 2 [awA,awB]:=by
 have h0:(awSW w).heap[w.heap.size]?=some awK1:=by
  unfold awSW;rw [Below.heap_alloc _ _ _ gD,Below.heap_alloc _ _ _ gz];exact heap_alloc_new w _
 have h1:(awSW w).heap[w.heap.size+1]?=some awK2:=by
  unfold awSW;rw [Below.heap_alloc _ _ _ gz];have:=heap_alloc_new (w.alloc awK1) awK2;simpa using this
 have h2:(awSW w).heap[w.heap.size+2]?=some (awK3 w.heap.size):=by
  unfold awSW;have:=heap_alloc_new ((w.alloc awK1).alloc awK2) (awK3 w.heap.size);simpa using this
 have s1:SnSl (awSW w) Any (some ⟨w.heap.size,0,none⟩) 1 [o7 [97,125]]:=SnSl.one (hd_v _ _ 0 [97,125] 0) h0 trivial;have s2:SlS (awSW w) Any (some ⟨w.heap.size+1,0,none⟩) 1 2 (l8 [[97],[98,44,99]]):=(Sl.lit (sz:=1) (n:=2) h1 rfl).slAny;refine⟨[_,_],?_,.cons (hx_v (os:=[]) (ks:=[o7 [97,125]]) (oa:=none) (oc:=0) (ka:=some ⟨w.heap.size,0,none⟩) (kc:=1) (SlS.none_ _ _ _ _) s1) (.cons (hx_v (os:=[[97],[98,44,99]]) (ks:=[]) (oa:=some ⟨w.heap.size+1,0,none⟩) (oc:=2) (ka:=none) (kc:=0) s2 (SnSl.nil _ _ _)) .nil)⟩;exact(Sl.lit (sz:=18) (n:=2) h2 rfl).slAny
theorem qf (w:World) (ht:Tab w):Calls Tryz.prog 9 #[] w fun e w'=>e=.returned (.bool true)∧Below w.heap.size w w':=by
 have hb:=Dn w;have H:Calls Tryz.prog 10 #[.slice (some ⟨w.heap.size+2,0,none⟩) 2 2] (awSW w) fun e w'=>e=.returned (.tuple #[.string ⟨(Sn.tellL [awA,awB]).toArray⟩,.int .i64 0])∧Below (awSW w).heap.size (awSW w) w' :=
  np (fun b=>b<(awSW w).heap.size) [awA,awB] (nB _ awAB_wf awAB_wt) gv awAB_may (by rw [Ay];decide) _ 2 _ (fun _ h=>h) (ht.keep hb) ((awSW_v w).mono (fun _ _ h=>h))
 rw [Ay] at H;unfold awSW awK1 awK2 awK3 awT at H;unfold awSW awK1 awK2 awK3 at hb;have HB:=ab hb;have HH:=ab H;clear ht H hb;go_enter Tryz.func9,Tryz.ntmps9
 go_wp2_with (go_at_call 10;refine HH.out.mono ?_)
 first|rintro e w1 rfl hb1|rintro e w1 ⟨rfl,hb1⟩
 go_wp2
 go_ret
 exact⟨rfl,HB.out.trans (hb1.mono gj)⟩
open Go.RowKit
theorem Bt {s:Str} {x:Rx} (h:qy s=.ok x):x.small∧x.parts≤1000:=by
 obtain⟨a1,a2,a3⟩:=readM_ok.1 h;have:=nR s
 obtain⟨f1,f2,f3,f4⟩:=qA _ _ _ _ _ gj a3 (sb gj);exact⟨f1,by simp at f2;omega⟩
theorem wd (tx:Str) (fs:List Fm):(mB tx fs).length≤fs.length+1:=by unfold mB;split<;>simp
theorem pA:∀(k:Nat) (r tx:Str) (fs:List Fm) {gs:List Fm} {s:Str},oO k r tx fs=some (gs,s)→gs.length≤fs.length+2*r.length+1
 | 0,_,_,_,_,_,h=>by cases h
 | _+1,[],_,_,_,_,h=>by cases h
 | k+1,c::r,tx,fs,gs,s,h=>by
  simp only [oO] at h;split at h
  ·injection h with h;injection h with h h';subst h;subst h'
   have:=wd tx fs
   omega
  ·split at h
   ·split at h
    ·rename_i p hp
     obtain⟨f,s'⟩:=p;have h1:=qz hp;have h2:=pA k _ _ _ h;have h3:=wd tx fs;simp at h2 ⊢
     omega
    ·have h2:=pA k _ _ _ h
     simp at h2 ⊢;omega
   ·split at h
    ·have h2:=pA k _ _ _ h
     simp at h2 ⊢
     omega
    ·have h2:=pA k _ _ _ h
     simp at h2 ⊢;omega
theorem uA {r:Str} {f:Tf} {s:Str} (h:nO r=some (f,s)) (hr:r.length≤100000):f.small:=by
 cases r with
 | nil=>cases h
 | cons c r =>
  simp only [nO] at h;split at h
  ·split at h
   ·cases h
   ·rename_i heq
    split at h
    ·cases h
    ·rename_i hx
     split at h
     ·cases h
     ·cases h
     ·rename_i heq2
      obtain⟨h1,h2⟩:=rG h;have h3:=pA _ _ _ _ heq2;have h4:=(sm r []).length_le;rw [heq] at h4;obtain⟨h5,h6⟩:=Bt hx;unfold Tf.small;rw [h1,h2];simp at h3 h4 hr
      exact⟨h5,by omega,by omega⟩
  ·cases h
theorem tR:∀(n:Nat) (r:Str) (o:List Str) (t:Str),r.length≤n→(optL r o t).1.length≤o.length+r.length+1
 | _,[],o,t,_=>by simp [optL]
 | 0,c::r,o,t,h=>by simp at h
 | n+1,c::r,o,t,h=>by
  simp only [H7] at h;rw [mR];split
  ·simp
  ·split
   ·have:=tR n r (o++[t]) [] gj;simp at this ⊢;omega
   ·have h1:=nV fiveS c r
    have:=tR n (nxtM fiveS (c::r)).2 o (t++[(nxtM fiveS (c::r)).1]) gj;simp;omega
theorem Hd.small {x:Sn} (h:Hd x):x.small∧x.kids=[]∧x.opts=[]:=by
 rcases h with⟨n,_,rfl⟩|⟨t,ht,rfl⟩
 ·exact⟨⟨sn,by simp,by simp,by simp,trivial⟩,rfl,rfl⟩
 ·refine⟨⟨sn,by simp,by simp,?_,trivial⟩,rfl,rfl⟩
  exact dH
theorem Hd.give_small {x:Sn} (h:Hd x) {ks:List Sn} (h1:Sn.smallL ks) (h2:ks.length≤1000000):(x.give ks).small:=by
 obtain⟨hs,_,_⟩:=h.small;obtain⟨k,t,n,hh,u,f,o,l⟩:=x;obtain⟨a,b,_,d,_⟩:=hs;exact⟨a,b,h2,d,h1⟩
theorem Hd.turn_small {x:Sn} (h:Hd x) {f:Tf} (hf:f.small):(x.turn f).small:=by
 obtain⟨hs,_,_⟩:=h.small;obtain⟨k,t,n,hh,u,f',o,l⟩:=x;obtain⟨a,b,c,d,e⟩:=hs;exact⟨hf,b,c,d,e⟩
theorem Hd.choose_small {x:Sn} (h:Hd x) {o:List Str} (ho:o.length≤1000000):(x.choose o).small:=by
 obtain⟨hs,_,_⟩:=h.small;obtain⟨k,t,n,hh,u,f',o',l⟩:=x;obtain⟨a,b,c,d,e⟩:=hs;exact⟨a,ho,c,d,e⟩
theorem yT {ps:Str→List Sn × Str} {x y:Sn} {r s:Str} (hx:Hd x) (hr:r.length≤100000) (hps:∀t,t.length<r.length→Sn.smallL (ps t).1∧(ps t).1.length≤1000000) (h:lc ps x r=some (y,s)):y.small:=by
 cases r with
 | nil=>cases h
 | cons c r =>
  simp only [lc] at h;split at h
  ·injection h with h;injection h with h h';subst h;exact hx.small.1
  ·split at h
   ·obtain⟨h1,h2⟩:=hps r gz
    split at h
    ·cases h
    ·injection h with h;injection h with h h';subst h;exact hx.give_small h1 h2
   ·split at h
    ·unfold qM at h
     split at h
     ·split at h
      ·injection h with h;injection h with h h';subst h
       have:=tR r.length r [] [] (Ia _)
       simp at this hr
       exact hx.choose_small gj
      ·cases h
     ·cases h
    ·split at h
     ·cases h
     ·rename_i heq
      injection h with h;injection h with h h';subst h
      exact hx.turn_small (uA heq hr)
theorem AY {t:Str} (h:t.length≤1000000):(o7 t).small:=⟨sn,by simp,by simp,h,trivial⟩
theorem pR {t:Str} (h:t.length≤1000000):Sn.smallL (lw [] t):=by
 unfold lw;split
 ·trivial
 ·exact⟨AY h,trivial⟩
theorem sV (ins:Bool) (t r:Str):(kP ins [] t r).1.length≤r.length+1:=by
 have h1:=((re r.length).2 ins t r (Ia _)).2.2.1;have h2:=Sn.len_parts (kP ins [] t r).1;have:=tl_le t
 omega
theorem vA:∀(N:Nat),N≤100000→(∀r x s,r.length≤N→lI r=some (x,s)→x.small)∧(∀ins t r,r.length≤N→t.length+r.length≤100000→Sn.smallL (kP ins [] t r).1)
 | 0,_=>by
  refine⟨fun r x s h hp=>?_,fun ins t r h ht=>?_⟩
  ·exact bO
  ·have:r=[]:=Hv gj
   subst this;rw [lW];exact pR gj
 | N+1,hN=>by
  obtain⟨ih1,ih2⟩:=vA N gj;have k1:∀r x s,r.length≤N+1→lI r=some (x,s)→x.small:=fun r x s hr h=>by
   rw [oD] at h;cases r with
   | nil=>cases h
   | cons c r =>
    simp only [H7] at hr;simp only [oq] at h;split at h
    ·split at h
     ·cases h
     ·rename_i heq
      have h1:=mI heq;exact yT (nT heq) gj (fun t ht=>⟨ih2 true [] t gj gD,by have:=sV true [] t;omega⟩) h
    ·exact(nT h).small.1
  refine⟨k1,fun ins t r hr ht=>?_⟩;cases r with
  | nil=>rw [lW];exact pR (by simp at ht;omega)
  | cons c r =>
   simp only [H7] at hr ht;rw [lF];split
   ·exact pR gj
   ·split
    ·rename_i x r2 he
     have hx:lI r=some (x,r2):=by
      exact cO
     have h1:=nA hx;rw [m9 ins r2.length (lw [] t++[x]) [] r2 (Ia _)];refine Sn.smallL_app.2 ⟨Sn.smallL_app.2 ⟨pR gj,k1 r x r2 gj hx,trivial⟩,ih2 ins [] r2 gj gD⟩
    ·exact dG
theorem rB {s:Str} (h:s.length≤100000):Sn.smallL (mG s)∧(mG s).length≤1000000∧Sn.partsL (mG s)≤1000000:=by
 rw [nW];have h1:=((re s.length).2 false [] s (Ia _)).2.2.1;have h2:=sV false [] s;exact⟨(vA s.length h).2 false [] s (Ia _) gD,by omega,by have:=tl_le [];omega⟩
open Go.RowKit
def SrtRel (ks:List Sn) (R:Bool) (w:World) (q:Value) (wr:World):Prop :=
 ∃k:Nat,q=.int .i64 k∧k≤ks.length∧Below w.heap.size w wr∧Hid (Sn.shortL (ks.drop k)=R)
theorem Ab:∀{l:List Sn},Sn.tinyL l→∀x∈l,x.kids.length≤1000000∧Sn.tinyL x.kids:=fun h x hx=>by
 have:=qE h x hx
 obtain⟨_,_,_,_,_,_,_,l⟩:=x;exact⟨this.2.2.2.2.1,this.2.2.2.2.2⟩
theorem wf_kids {x:Sn} (h:x.wf=true):Sn.wfL x.kids=true:=by
 obtain⟨k,t,n,hh,u,f,o,ks⟩:=x;rw [Sn.wf,Ie] at h;cases hh with
 | true =>
  have h2:=h.2;rw [Bool.not_true,Bool.false_or,Ie] at h2;exact h2.2
 | false=>exact Au h.1
theorem wf_turn {k:Int} {t:Str} {n:Int} {h:Bool} {f:Tf} {o:List Str} {ks:List Sn} (hw:(Sn.mk k t n h true f o ks).wf=true):oY f=true:=by
 rw [Sn.wf,Ie] at hw;have h:=hw.1;rw [ve] at h;simp only [wm] at h;revert h
 (repeat' split)<;>intro h<;>simp_all
theorem n9 (S:Nat→Prop):∀(N:Nat) (ks:List Sn),Sn.partsL ks<N→Sn.tinyL ks→ks.length≤1000000→Sn.wfL ks=true→∀(a:Option Addr) (c:Nat) (w:World),SnSl w S a ks.length ks→Tab w →
  Calls Tryz.prog 12 #[.slice a ks.length c] w fun e w'=>e=.returned (.bool (Sn.shortL ks))∧Below w.heap.size w w'
 | 0,ks,h,_,_,_,_,_,_,_,_=>by omega
 | N+1,ks,h,hti,hl6,hwf,a,c,w,hx,ht=>by
  have ih:=fun(y:Sn) (hy:y∈ks)=>n9 S N y.kids (by have:=Sn.parts_mem hy;obtain⟨_,_,_,_,_,_,_,l⟩:=y;simp only [Sn.parts] at this;simp only [Sn.kids];omega) (Ab hti y hy).2 (Ab hti y hy).1 (wf_kids (r8 hwf y hy))
  have IH:=ab ih;have HX:=ab hx;have HT:=ab ht;have HTI:=ab (fun y hy=>qE hti y hy);have HWF:=ab (fun y hy=>r8 hwf y hy);obtain⟨R,hR⟩:∃R,Sn.shortL ks=R:=⟨_,rfl⟩;have HR0:Hid (Sn.shortL (ks.drop 0)=R):=ab (by simpa using hR);rw [hR];clear hR hx ih ht hti hwf;go_enter Tryz.func12,Tryz.ntmps12
  go_wp2
  go_loopw [3] (fun q wr=>SrtRel ks R w q wr) (fun q _=>ks.length-(intOf q).toNat)
  case atStart=>exact⟨0,rfl,by omega,Below.refl _ _,HR0⟩
  case round =>
   obtain⟨i,rfl,hi,hb,HF⟩:=hrel;clear HR0;have hB:=hb.size;cases hd:ks.drop i with
   | nil =>
    have h2:ks.length≤i:=gX;have HE:Hid (true=R):=ab ic;clear hd HF;go_wp2
    go_ret
    exact⟨ll HE.out,hb⟩
   | cons y r =>
    obtain⟨h2,h3,hr⟩:=kV hd;have hyp:=In h3;have hyt:=HTI.out y hyp;have hyw:=HWF.out y hyp;obtain⟨yk,yt,yn,yh,yu,yf,yo,ys⟩:=y;have hF2:((!yu||decide (yf.rx.tell.length≤256))&&Sn.shortL ys&&Sn.shortL r)=R:=by rw [←HF.out,hd];rfl
    obtain⟨b,o,cc,rfl,hS,hbB,hyv,hcc⟩:=(HX.out.later hb).at_ h3;obtain⟨fc,oa,oc,ka,kc,hA⟩:=hyv.at_;have hc4:wr.cell? ⟨b,o+i*18+4,none⟩=some (.bool yu):=hcc 4 _ hA.c4;have HC17:Hid (wr.cell? ⟨b,o+i*18+17,none⟩=some (.slice ka ys.length kc)):=ab (hcc 17 _ hA.c17);have HA:=ab hA;have Hr:=ab hr;cases yu with
    | false =>
     have HF2:=ab hF2;clear hd HF hr h3 hyv hcc hA hyt hyw hF2;have hbr:=Below.refl wr.heap.size wr;have HK:=ab (IH.out _ hyp ka kc wr HA.out.kv (HT.out.keep hb));have k17:=HC17.out;cases hks:Sn.shortL ys with
     | false =>
      have HE:Hid (false=R):=ab (by rw [←HF2.out,hks];simp);have hk9:Sn.shortL (Sn.mk yk yt yn yh false yf yo ys).kids=false:=hks;rw [hk9] at HK;clear hks hk9;go_wp2_with (go_at_call 12;refine HK.out.mono ?_)
      first|rintro e w2 rfl hb2|rintro e w2 ⟨rfl,hb2⟩
      go_wp2
      go_ret
      exact⟨ll HE.out,bel2 hb hb2⟩
     | true =>
      have HE:Hid (Sn.shortL r=R):=ab (by rw [←HF2.out,hks];simp);have hk9:Sn.shortL (Sn.mk yk yt yn yh false yf yo ys).kids=true:=hks;rw [hk9] at HK;clear hks hk9;go_wp2_with (go_at_call 12;refine HK.out.mono ?_)
      first|rintro e w2 rfl hb2|rintro e w2 ⟨rfl,hb2⟩
      go_wp2
      go_roundw
      case rel=>exact⟨i+1,by go_num,by omega,(bel2 hb hb2),ab (by rw [Hr.out];exact HE.out)⟩
      case measure=>simp [intOf];omega
    | true =>
     have hmf:=wf_turn hyw;obtain⟨rk,rch,rng,rrs,rlo,rhi,rlz,rks,ra,rcp,rka,rkc,fa,fcp,hc⟩:=hA.fv.open_;obtain⟨X,fs,fd,al⟩:=yf;obtain⟨⟨⟨x1,x2,x3⟩,t2,t3,t4,t5⟩,_⟩:=hyt;have hm2:(mayB X&&tO fs)=true:=hmf;rw [Ie] at hm2;have hx1:X=.mk rk rch rng rrs rlo rhi rlz rks:=hc.rx;have hxv:=hc.rv;have hfce:=hc.eq;have HRX:=ab (sM S X _ wr x2 x1 (hx1▸hxv) (HT.out.keep hb) hm2.1 (by have h9:X.tell.length≤1000000:=t4;omega));have hrg:wr.rangeAt b (o+i*18+5) [.int .i64 rk,.string ⟨rch.toArray⟩,.bool rng,.slice ra rrs.length rcp,.int .i64 rlo,.int .i64 rhi,.bool rlz,.slice rka rks.length rkc]:=fun j v hj=>by
      have h9:=hA.cf j v (by rw [hfce];exact(Ij (by have:=(Id.1 hj).1;exact this)).trans hj);have:=hcc (5+j) v h9
      rw [IJ,IJ];exact this
     obtain⟨T,hT⟩:∃T,X.tell=T:=⟨_,rfl⟩;have hTl:T.length≤1000000:=by rw [←hT];exact t4
     have hF3:(decide (T.length≤256)&&Sn.shortL ys&&Sn.shortL r)=R:=by rw [←hF2,←hT];rfl
     rw [hT] at HRX;have HF3:=ab hF3;clear hd HF hr h3 hyv hcc hA hyw hF2 hF3 hmf hc hm2 hx1 hxv hfce x1 x2 x3 t2 t3 t4 t5 hT;by_cases h256:T.length≤256
     ·have dg:decide ((256:Int)<(T.length:Int))=false:=Ix gj
      have HF4:Hid ((Sn.shortL ys&&Sn.shortL r)=R):=ab (by rw [←HF3.out,Iw h256];rfl);clear h256;go_wp2_with (first
       | (refine kA rfl 38 (.tmp 22) rfl b (o+i*18+5) rfl [.int .i64 rk,.string ⟨rch.toArray⟩,.bool rng,.slice ra rrs.length rcp,.int .i64 rlo,.int .i64 rhi,.bool rlz,.slice rka rks.length rkc] _ hrg lK rfl g8 ?_)
       | (go_at_call 23;refine HRX.out.mono ?_))
      first|rintro e w1 rfl hb1|rintro e w1 ⟨rfl,hb1⟩
      have HK:=ab (IH.out _ hyp ka kc w1 (HA.out.kv.later hb1) (HT.out.keep (bel2 hb hb1)));have k17:w1.cell? ⟨b,o+i*18+17,none⟩=some (.slice ka ys.length kc):=lp hb1 _ _ HC17.out;have hbw1:=bel2 hb hb1;cases hks:Sn.shortL ys with
      | false =>
       have HE:Hid (false=R):=ab (by rw [←HF4.out,hks];rfl);have hk9:Sn.shortL (Sn.mk yk yt yn yh true ⟨X,fs,fd,al⟩ yo ys).kids=false:=hks;rw [hk9] at HK;clear hks hk9;go_wp2_with (go_at_call 12;refine HK.out.mono ?_)
       first|rintro e w2 rfl hb2|rintro e w2 ⟨rfl,hb2⟩
       go_wp2
       go_ret
       exact⟨ll HE.out,bel2 hbw1 hb2⟩
      | true =>
       have HE:Hid (Sn.shortL r=R):=ab (by rw [←HF4.out,hks];rfl);have hk9:Sn.shortL (Sn.mk yk yt yn yh true ⟨X,fs,fd,al⟩ yo ys).kids=true:=hks;rw [hk9] at HK;clear hks hk9;go_wp2_with (go_at_call 12;refine HK.out.mono ?_)
       first|rintro e w2 rfl hb2|rintro e w2 ⟨rfl,hb2⟩
       go_wp2
       go_roundw
       case rel=>exact⟨i+1,by go_num,by omega,(bel2 hbw1 hb2),ab (by rw [Hr.out];exact HE.out)⟩
       case measure=>simp [intOf];omega
     ·have dg:decide ((256:Int)<(T.length:Int))=true:=Iw gj
      have HE:Hid (false=R):=ab (by rw [←HF3.out,Ix h256];rfl);clear h256;go_wp2_with (first
       | (refine kA rfl 38 (.tmp 22) rfl b (o+i*18+5) rfl [.int .i64 rk,.string ⟨rch.toArray⟩,.bool rng,.slice ra rrs.length rcp,.int .i64 rlo,.int .i64 rhi,.bool rlz,.slice rka rks.length rkc] _ hrg lK rfl g8 ?_)
       | (go_at_call 23;refine HRX.out.mono ?_))
      first|rintro e w1 rfl hb1|rintro e w1 ⟨rfl,hb1⟩
      go_wp2
      go_ret
      exact⟨ll HE.out,bel2 hb hb1⟩
end Go.Proofs.YtdcnncgpomcaaaaGreatDoor
