/- Arguments opened: a snippet's tree. -/
import Derived.Test.YtdcnncgpomcaaaaGreatDoorRc28
import Derived.Deep.AppendLies
set_option maxRecDepth 100000
set_option maxHeartbeats 4000000
namespace Go.Proofs.YtdcnncgpomcaaaaGreatDoor
open Go.ChangeShapes Go.WideShapes Go.RowKit
def Tf.mem (f:Tf):Prop:=f.rx.mem∧f.fs.length≤maxLen∧∀g∈f.fs,g.thn.length≤maxLen∧g.els.length≤maxLen
namespace Sn
mutual
def mem:Sn→Prop
 | mk _ t _ _ _ f o ks=>t.length≤maxLen∧f.mem∧o.length≤maxLen∧(∀s∈o,s.length≤maxLen)∧ks.length≤maxLen∧memL ks
def memL:List Sn→Prop
 | []=>True
 | x::r=>mem x∧memL r
end
end Sn
theorem Ai:Tryz.prog.underlying 44=some (.struct (Tryz.prog.fieldsOf 44)):=by kernel_rfl
theorem Au:Tryz.prog.underlying 41=some (.struct (Tryz.prog.fieldsOf 41)):=by kernel_rfl
theorem snip_fs : Tryz.prog.fieldsOf 44 = #[{ name := "Kind", type := 3, offset := 0, embedded := false, tag := "", pkgPath := "", byteOffset := 0 }, { name := "Text", type := 9, offset := 1, embedded := false, tag := "", pkgPath := "", byteOffset := 8 }, { name := "N", type := 3, offset := 2, embedded := false, tag := "", pkgPath := "", byteOffset := 24 }, { name := "Has", type := 4, offset := 3, embedded := false, tag := "", pkgPath := "", byteOffset := 32 }, { name := "Turned", type := 4, offset := 4, embedded := false, tag := "", pkgPath := "", byteOffset := 33 }, { name := "Form", type := 41, offset := 5, embedded := false, tag := "", pkgPath := "", byteOffset := 40 }, { name := "Opts", type := 42, offset := 16, embedded := false, tag := "", pkgPath := "", byteOffset := 176 }, { name := "Kids", type := 22, offset := 17, embedded := false, tag := "", pkgPath := "", byteOffset := 200 }] := by kernel_rfl
theorem form_fs : Tryz.prog.fieldsOf 41 = #[{ name := "Rx", type := 38, offset := 0, embedded := false, tag := "", pkgPath := "", byteOffset := 0 }, { name := "Fmts", type := 39, offset := 8, embedded := false, tag := "", pkgPath := "", byteOffset := 104 }, { name := "Fold", type := 4, offset := 9, embedded := false, tag := "", pkgPath := "", byteOffset := 128 }, { name := "All", type := 4, offset := 10, embedded := false, tag := "", pkgPath := "", byteOffset := 129 }] := by kernel_rfl
theorem Fd:Tryz.prog.cellsOf 41=11:=by kernel_rfl
theorem xE:Tryz.prog.cellsOf 44=18:=by kernel_rfl
theorem CT:Tryz.prog.cellsOf 22=1:=by kernel_rfl
theorem E7:Tryz.prog.cellsOf 42=1:=by kernel_rfl
theorem FH:Tryz.prog.cellsOf 39=1:=by kernel_rfl
theorem Iu:Tryz.prog.cellsOf 95=5:=by kernel_rfl
theorem vH {w:World}:∀{css:List (List Value)},(∀c∈css,∃x:Sn,SnV w Any c x∧x.mem)→∃xs:List Sn,SnVs w Any css xs∧Sn.memL xs
 | [],_=>⟨[],.nil,by simp [Sn.memL]⟩
 | c::css,h=>by
  obtain⟨x,hx,hm⟩:=h c (JE ..);obtain⟨xs,hxs,hms⟩:=vH (fun d hd=>h d (JF _ hd));exact⟨x::xs,.cons hx hxs,by simp only [Sn.memL];exact⟨hm,hms⟩⟩
theorem zw {w:World} {S:Nat→Prop}:∀{css:List (List Value)} {xs:List Sn},SnVs w S css xs→css.length=xs.length
 | _,_,.nil=>rfl
 | _,_,.cons _ h=>Jp (·+1) (zw h)
section
variable {H:Type} {enc:TypeId × Value→H} {w:World} {spare:Nat→Bool} {held:Bool}
theorem Ih {n:Nat} {c:List Value} {y:DataW H × List MemPlace} (hc:c.length=5) (hy:DataW.trod enc Tryz.prog w 0 spare held n 95 c=some y):∃f:Fm,c=f.cells∧f.thn.length≤maxLen∧f.els.length≤maxLen:=by
 obtain⟨ys,m,_,_,_,hl,hfs⟩:=DataW.trod_struct IP hy;match c,hc with
 | [c0,c1,c2,c3,c4],_ =>
  have hF : Tryz.prog.fieldsOf 95 = #[{ name := "Kind", type := 3, offset := 0, embedded := false, tag := "", pkgPath := "", byteOffset := 0 }, { name := "N", type := 3, offset := 1, embedded := false, tag := "", pkgPath := "", byteOffset := 8 }, { name := "Case", type := 3, offset := 2, embedded := false, tag := "", pkgPath := "", byteOffset := 16 }, { name := "Then", type := 9, offset := 3, embedded := false, tag := "", pkgPath := "", byteOffset := 24 }, { name := "Else", type := 9, offset := 4, embedded := false, tag := "", pkgPath := "", byteOffset := 40 }] := by kernel_rfl
  rw [hF] at hfs hl;have f0 := hfs 0 ({ name := "Kind", type := 3, offset := 0, embedded := false, tag := "", pkgPath := "", byteOffset := 0 }) rfl
  have f1 := hfs 1 ({ name := "N", type := 3, offset := 1, embedded := false, tag := "", pkgPath := "", byteOffset := 8 }) rfl
  have f2 := hfs 2 ({ name := "Case", type := 3, offset := 2, embedded := false, tag := "", pkgPath := "", byteOffset := 16 }) rfl
  have f3 := hfs 3 ({ name := "Then", type := 9, offset := 3, embedded := false, tag := "", pkgPath := "", byteOffset := 24 }) rfl
  have f4 := hfs 4 ({ name := "Else", type := 9, offset := 4, embedded := false, tag := "", pkgPath := "", byteOffset := 40 }) rfl
  simp only [wh,oV,List.drop,List.take] at f0 f1 f2 f3 f4;have hys:ys.length=5:=hl;rw [Jn gN] at f0 f1 f2 f3 f4;obtain⟨n0,e0,_⟩:=DataW.trod_int Tryz.underlying3 f0;obtain⟨n1,e1,_⟩:=DataW.trod_int Tryz.underlying3 f1;obtain⟨n2,e2,_⟩:=DataW.trod_int Tryz.underlying3 f2;obtain⟨s3,e3,_,h3⟩:=DataW.trod_string Tryz.underlying9 f3;obtain⟨s4,e4,_,h4⟩:=DataW.trod_string Tryz.underlying9 f4;injection e0 with e0;injection e1 with e1;injection e2 with e2;injection e3 with e3;injection e4 with e4
  subst e0 e1 e2 e3 e4;exact⟨⟨n0,n1,n2,s3.data.toList,s4.data.toList⟩,by simp [Fm.cells],by simpa using h3,by simpa using h4⟩
theorem BY {n:Nat} {c:List Value} {y:DataW H × List MemPlace} (hc:c.length=11) (hy:DataW.trod enc Tryz.prog w 0 spare held n 41 c=some y):∃f:Tf,TfV w Any c f∧f.mem:=by
 obtain⟨ys,m,_,_,_,hl,hfs⟩:=DataW.trod_struct Au hy;match c,hc with
 | [c0,c1,c2,c3,c4,c5,c6,c7,c8,c9,c10],_ =>
  rw [form_fs] at hfs hl;have hys:ys.length=4:=hl;have f0 := hfs 0 ({ name := "Rx", type := 38, offset := 0, embedded := false, tag := "", pkgPath := "", byteOffset := 0 }) rfl
  have f1 := hfs 1 ({ name := "Fmts", type := 39, offset := 8, embedded := false, tag := "", pkgPath := "", byteOffset := 104 }) rfl
  have f2 := hfs 2 ({ name := "Fold", type := 4, offset := 9, embedded := false, tag := "", pkgPath := "", byteOffset := 128 }) rfl
  have f3 := hfs 3 ({ name := "All", type := 4, offset := 10, embedded := false, tag := "", pkgPath := "", byteOffset := 129 }) rfl
  simp only [Em,FH,up,List.drop,List.take] at f0 f1 f2 f3;rw [Jn gN] at f0 f1 f2 f3;obtain⟨x,hx,hm⟩:=rx_cells _ [c0,c1,c2,c3,c4,c5,c6,c7] _ rfl f0;obtain⟨a1,cap1,fs,e1,h1,hr1,sl1⟩:=wJ Fm.cells (fun f=>f.thn.length≤maxLen∧f.els.length≤maxLen) Tryz.underlying39 (C:=5) Iu gR f1 (fun n c y _ hc hy=>Ih hc hy);obtain⟨b2,e2,_⟩:=DataW.trod_bool Tryz.underlying4 f2;obtain⟨b3,e3,_⟩:=DataW.trod_bool Tryz.underlying4 f3;injection e1 with e1;injection e2 with e2;injection e3 with e3
  subst e1 e2 e3;exact⟨⟨x,fs,b2,b3⟩,⟨[c0,c1,c2,c3,c4,c5,c6,c7],a1,cap1,hx,sl1.slAny,rfl⟩,hm,h1,hr1⟩
theorem EL:∀(fuel:Nat) (c:List Value) (y:DataW H × List MemPlace),c.length=18→DataW.trod enc Tryz.prog w 0 spare held fuel 44 c=some y→∃x:Sn,SnV w Any c x∧x.mem:=by
 intro fuel;induction fuel using Nat.strongRecOn with
 | ind fuel ih =>
  intro c y hc hy;obtain⟨ys,m,hm,_,_,hl,hfs⟩:=DataW.trod_struct Ai hy;match c,hc with
  | [c0,c1,c2,c3,c4,c5,c6,c7,c8,c9,c10,c11,c12,c13,c14,c15,c16,c17],_ =>
   rw [snip_fs] at hfs hl;have hys:ys.length=8:=hl;have f0 := hfs 0 ({ name := "Kind", type := 3, offset := 0, embedded := false, tag := "", pkgPath := "", byteOffset := 0 }) rfl
   have f1 := hfs 1 ({ name := "Text", type := 9, offset := 1, embedded := false, tag := "", pkgPath := "", byteOffset := 8 }) rfl
   have f2 := hfs 2 ({ name := "N", type := 3, offset := 2, embedded := false, tag := "", pkgPath := "", byteOffset := 24 }) rfl
   have f3 := hfs 3 ({ name := "Has", type := 4, offset := 3, embedded := false, tag := "", pkgPath := "", byteOffset := 32 }) rfl
   have f4 := hfs 4 ({ name := "Turned", type := 4, offset := 4, embedded := false, tag := "", pkgPath := "", byteOffset := 33 }) rfl
   have f5 := hfs 5 ({ name := "Form", type := 41, offset := 5, embedded := false, tag := "", pkgPath := "", byteOffset := 40 }) rfl
   have f6 := hfs 6 ({ name := "Opts", type := 42, offset := 16, embedded := false, tag := "", pkgPath := "", byteOffset := 176 }) rfl
   have f7 := hfs 7 ({ name := "Kids", type := 22, offset := 17, embedded := false, tag := "", pkgPath := "", byteOffset := 200 }) rfl
   simp only [oV,wh,up,Fd,E7,CT,List.drop,List.take] at f0 f1 f2 f3 f4 f5 f6 f7;rw [Jn gN] at f0 f1 f2 f3 f4 f5 f6 f7;obtain⟨n0,e0,_⟩:=DataW.trod_int Tryz.underlying3 f0;obtain⟨s1,e1,_,h1⟩:=DataW.trod_string Tryz.underlying9 f1;obtain⟨n2,e2,_⟩:=DataW.trod_int Tryz.underlying3 f2;obtain⟨b3,e3,_⟩:=DataW.trod_bool Tryz.underlying4 f3;obtain⟨b4,e4,_⟩:=DataW.trod_bool Tryz.underlying4 f4;obtain⟨tf,h5,hm5⟩:=BY rfl f5;obtain⟨a6,cap6,os,e6,h6,hr6,sl6⟩:=wJ (fun s:Str=>[.string ⟨s.toArray⟩]) (fun s=>s.length≤maxLen) Tryz.underlying42 (C:=1) oV gR f6 (fun n c y _ _ hy=>by
    obtain⟨s,rfl,_,hs⟩:=DataW.trod_string Tryz.underlying9 hy;exact⟨s.data.toList,by simp,by simpa using hs⟩)
   have hm6:∀ys:List Str,ys.flatMap (fun s:Str=>[.string ⟨s.toArray⟩])=mE ys:=by
    intro ys;induction ys with
    | nil=>rfl
    | cons y ys ih=>rw [Jz,ih];rfl
   rw [hm6] at sl6;obtain⟨a7,len7,cap7,css,e7,h7,hcl,hq,sl7⟩:=qK Tryz.underlying22 (C:=18) xE gR f7 (fun c=>∃x:Sn,SnV w Any c x∧x.mem) (fun n c y hn hc hy=>ih n gN c y hc hy);obtain⟨ks,hks,hmL⟩:=vH (fun c hc=>(hq c hc).1);have hlk:len7=ks.length:=by rw [←zw hks,hcl]
   subst hlk;injection e0 with e0;injection e1 with e1;injection e2 with e2;injection e3 with e3;injection e4 with e4;injection e6 with e6;injection e7 with e7
   subst e0 e1 e2 e3 e4 e6 e7;refine⟨.mk n0 s1.data.toList n2 b3 b4 tf os ks,?_,?_⟩
   ·have hv:=SnV.close (k:=n0) (t:=s1.data.toList) (n:=n2) (h:=b3) (u:=b4) (os:=os) (ks:=ks) (oc:=cap6) (kc:=cap7) h5 sl6.slAny ⟨css,sl7.slAny,hks⟩
    unfold snc at hv;rw [←ba_of] at hv;exact hv
   ·simp only [Sn.mem]
    exact⟨by simpa using h1,hm5,h6,hr6,h7,hmL⟩
theorem sf {r:Reach} {b0:Nat} {v:Value} {d:DataW H} {ps:List MemPlace} (hval:Value.okWide Tryz.prog w r b0 22 v) (h:DataW.Trod enc Tryz.prog w 0 spare held 22 v d ps) :
  ∃(a:Option Addr) (cap:Nat) (xs:List Sn),v=.slice a xs.length cap∧xs.length≤maxLen∧Sn.memL xs∧SnSl w Any a xs.length xs:=by
 obtain⟨fuel,hf⟩:=h;rw [xx Tryz.underlying22 hval] at hf;obtain⟨a7,len7,cap7,css,e7,h7,hcl,hq,sl7⟩:=qK Tryz.underlying22 (C:=18) xE gR hf (fun c=>∃x:Sn,SnV w Any c x∧x.mem) (fun n c y hn hc hy=>EL n c y hc hy);obtain⟨ks,hks,hmL⟩:=vH (fun c hc=>(hq c hc).1);have hlk:len7=ks.length:=by rw [←zw hks,hcl]
 subst hlk;injection e7 with e7
 exact⟨a7,cap7,ks,e7,h7,hmL,css,sl7.slAny,hks⟩
end
open Go.RowKit
theorem D8:∀(fs:List Fm) (m:Int),-1000≤m→m≤1000→-1000≤qC fs m∧qC fs m≤1000
 | [],m,a,b=>⟨a,b⟩
 | f::r,m,a,b=>by
  simp only [qC];split
  ·omega
  ·exact D8 r _ gN gN
def xg (f:Tf) (n:Int):Int:=if f.rx.left n<0 then f.rx.left n else qC f.fs (f.rx.left n)
theorem DT (f:Tf) (n:Int) (a:-1000≤n) (b:n≤1000):-1000≤xg f n∧xg f n≤1000:=by
 have h:=zB _ f.rx n (Ju _) a b;unfold xg;split
 ·exact h
 ·exact D8 _ _ h.1 h.2
theorem C1 (S:Nat→Prop) (f:Tf) (hm:f.mem) (fc:List Value) (w:World) (n:Int) (hv:TfV w S fc f) (hn0:-1000≤n) (hn1:n≤1000) :
  Calls Tryz.prog 19 #[.agg fc.toArray,.int .i64 n] w fun e w'=>e=.returned (.int .i64 (xg f n))∧Below w.heap.size w w':=by
 obtain⟨rk,rch,rng,rrs,rlo,rhi,rlz,rks,ra,rcp,rka,rkc,fa,fcp,hc⟩:=hv.open_;obtain⟨X,fs,fd,al⟩:=f;obtain⟨m1,m2,m3⟩:=hm;have hx1:X=.mk rk rch rng rrs rlo rhi rlz rks:=hc.rx;have hfce:fc=[.int .i64 rk,.string ⟨rch.toArray⟩,.bool rng,.slice ra rrs.length rcp,.int .i64 rlo,.int .i64 rhi,.bool rlz,.slice rka rks.length rkc,.slice fa fs.length fcp,.bool fd,.bool al]:=hc.eq;obtain⟨W0,hW0⟩:∃W0,W0=w.alloc (.cells fc.toArray 41):=⟨_,rfl⟩;have hb0:Below w.heap.size w W0:=by rw [hW0];exact(Below.refl _ _).alloc (Ju _) _
 have HB1:Hid (W0.heap[w.heap.size]?=some (.cells fc.toArray 41 (0,0))):=ab iy;have hXV:RxV W0 S [.int .i64 rk,.string ⟨rch.toArray⟩,.bool rng,.slice ra rrs.length rcp,.int .i64 rlo,.int .i64 rhi,.bool rlz,.slice rka rks.length rkc] X:=hx1▸hc.rv.later hb0;have HFS:Hid (SlS W0 S fa 5 fs.length (mu fs)):=ab (hc.fv.keep (Kept.all hb0));have hlb:=zB _ X n (Ju _) hn0 hn1;have HRX:=ab (BD S _ X (Ju _) m1 _ W0 n hXV hn0 hn1);have HM3:=ab m3;have HM2:Hid (fs.length≤maxLen):=ab m2;have hF:xg ⟨X,fs,fd,al⟩ n=if X.left n<0 then X.left n else qC fs (X.left n):=rfl
 subst hfce;have HW0:=ab hW0;rw [hF];clear hv hc hx1 hW0 m1 m2 m3 hXV hF;generalize X.left n=m at HRX hlb ⊢
 obtain⟨l0,l1⟩:=hlb;by_cases hneg:m<0
 ·rw [Jl hneg]
  have g1:decide (m<0)=true:=JR hneg;clear hneg;go_enter Tryz.func19,Tryz.ntmps19
  go_upto_region 1 with fail
  rw [←HW0.out];clear HW0;go_wp2_with (first
   | (refine kV rfl 38 (.tmp 5) rfl w.heap.size 0 rfl [.int .i64 rk,.string ⟨rch.toArray⟩,.bool rng,.slice ra rrs.length rcp,.int .i64 rlo,.int .i64 rhi,.bool rlz,.slice rka rks.length rkc] _ (lc (ds:=[.slice fa fs.length fcp,.bool fd,.bool al]) HB1.out) mb rfl iB ?_)
   | (go_at_call 29;refine HRX.out.mono ?_))
  exact bg
 ·rw [Jo hneg]
  have g1:decide (m<0)=false:=JT hneg;clear hneg;go_enter Tryz.func19,Tryz.ntmps19
  go_upto_region 1 with fail
  rw [←HW0.out];clear HW0;go_wp2_with (first
   | (refine kV rfl 38 (.tmp 5) rfl w.heap.size 0 rfl [.int .i64 rk,.string ⟨rch.toArray⟩,.bool rng,.slice ra rrs.length rcp,.int .i64 rlo,.int .i64 rhi,.bool rlz,.slice rka rks.length rkc] _ (lc (ds:=[.slice fa fs.length fcp,.bool fd,.bool al]) HB1.out) mb rfl iB ?_)
   | (go_at_call 29;refine HRX.out.mono ?_))
  first|rintro e w1 rfl hb1|rintro e w1 ⟨rfl,hb1⟩
  have hx1:=(hb1.block _ (kT HB1.out)).trans HB1.out;have z8:=kU hx1 8 rfl;have HFL:=ab (BB fa fs.length fcp m fs w1 (HFS.out.keep (Kept.all hb1)).sl HM2.out gN HM3.out);clear hx1;go_wp2_with (go_at_call 30;refine HFL.out.mono ?_)
  first|rintro e w2 rfl hb2|rintro e w2 ⟨rfl,hb2⟩
  go_wp2
  go_ret
  exact⟨rfl,bel2 (bel2 hb0 hb1) hb2⟩
open Go.RowKit
def sW:List Str→Int→Option Int
 | [],n=>some n
 | s::r,n=>if n≤s.length then none else sW r (n-1-s.length)
namespace Sn
mutual
def left:Sn→Int→Int
 | mk _ t _ _ _ f o ks,n=>if n≤t.length∨n≤o.length then -1 else
  (match sW o (xg f (n-1-t.length)) with
   | none=>-1
   | some m=>if m<0 then m else leftL ks m)
def leftL:List Sn→Int→Int
 | [],n=>n
 | x::r,n=>if n<0 then n else leftL r (left x n)
end
end Sn
def finO (ks:List Sn):Option Int→Int
 | none=>-1
 | some m=>if m<0 then m else Sn.leftL ks m
theorem Di:∀(o:List Str) (n m:Int),sW o n=some m→-1000≤n→n≤1000→-1000≤m∧m≤n
 | [],n,m,h,a,b=>by simp only [sW] at h;injection h with h;omega
 | s::r,n,m,h,a,b=>by
  simp only [sW] at h;split at h
  ·cases h
  ·have:=Di r _ m h gN gN;omega
theorem DO:∀(N:Nat) (x:Sn) (n:Int),x.parts≤N→-1000≤n→n≤1000→-1000≤x.left n∧x.left n≤1000
 | 0,x,_,h,_,_=>by have:=Sn.parts_pos x;omega
 | N+1,.mk k t n0 h u f o ks,n,hp,h0,h1=>by
  simp only [Sn.parts] at hp;have hk:∀(l:List Sn) (m:Int),Sn.partsL l≤N→-1000≤m→m≤1000→-1000≤Sn.leftL l m∧Sn.leftL l m≤1000:=by
   intro l;induction l with
   | nil=>intro m _ a b;simp only [Sn.leftL];exact⟨a,b⟩
   | cons x r ih =>
    intro m hm a b;simp only [Sn.partsL] at hm;simp only [Sn.leftL];split
    ·exact⟨a,b⟩
    ·have:=DO N x m gN a b
     exact ih _ gN this.1 this.2
  simp only [Sn.left];split
  ·omega
  ·rename_i hc
   have hf:=DT f (n-1-t.length) gN gN;split
   ·omega
   ·rename_i m hm
    have h2:=Di o _ m hm hf.1 hf.2;split
    ·omega
    ·exact hk ks m gN gN gN
theorem D3:∀(l:List Sn) (m:Int),-1000≤m→m≤1000→-1000≤Sn.leftL l m∧Sn.leftL l m≤1000
 | [],m,a,b=>⟨a,b⟩
 | x::r,m,a,b=>by
  simp only [Sn.leftL];split
  ·exact⟨a,b⟩
  ·have:=DO _ x m (Ju _) a b
   exact D3 r _ this.1 this.2
theorem zj:∀{ks:List Sn} {x:Sn},Sn.memL ks→x∈ks→x.mem
 | [],_,_,h=>by simp at h
 | y::r,x,hs,h=>by
  simp only [Sn.memL] at hs;rcases JC.1 h with rfl|h
  ·exact hs.1
  ·exact zj hs.2 h
theorem tn:∀(l:List Sn) (m:Int),m<0→Sn.leftL l m=m
 | [],m,_=>rfl
 | x::r,m,h=>by simp only [Sn.leftL];rw [Jl h]
def SlRel (ks:List Sn) (R:Int) (w:World) (s q:Value) (wr:World):Prop :=
 ∃(k:Nat) (m:Int),k≤ks.length∧q=.int .i64 k∧s=.int .i64 m∧-1000≤m∧m≤1000∧Below w.heap.size w wr∧Hid (Sn.leftL (ks.drop k) m=R)
def SoLRel (o:List Str) (R:Option Int) (w:World) (s q:Value) (wr:World):Prop :=
 ∃(k:Nat) (m:Int),k≤o.length∧q=.int .i64 k∧s=.int .i64 m∧-1000≤m∧m≤1000∧Below w.heap.size w wr∧Hid (sW (o.drop k) m=R)
def LsC (ks:List Sn):Prop:=∀(S:Nat→Prop) (a:Option Addr) (c:Nat) (w:World) (n:Int),SnSl w S a ks.length ks→-1000≤n→n≤1000 →
 Calls Tryz.prog 8 #[.slice a ks.length c,.int .i64 n] w fun e w'=>e=.returned (.int .i64 (Sn.leftL ks n))∧Below w.heap.size w w'
theorem zR (ks:List Sn) (hmem:Sn.memL ks) (hkl:ks.length≤maxLen) (IH0:∀y∈ks,LsC y.kids):LsC ks:=by
 intro S a c w n hx hn0 hn1;obtain⟨R,hR⟩:∃R,Sn.leftL ks n=R:=⟨_,rfl⟩;have HRR:Hid (Sn.leftL (ks.drop 0) n=R):=ab hR;rw [hR];have HX:=ab hx;have HM:=ab (fun y hy=>zj (x:=y) hmem hy);have IH:=ab IH0;unfold maxLen at hkl;clear hx hmem IH0 hR;go_enter Tryz.func8,Tryz.ntmps8
 go_wp2
 go_loopw [1,5] (fun s q wr=>SlRel ks R w s q wr) (fun _ q _=>ks.length-(intOf q).toNat)
 case atStart=>exact⟨0,n,by omega,rfl,rfl,hn0,hn1,Below.refl _ _,HRR⟩
 case round =>
  obtain⟨i,m,hi,rfl,rfl,hm0,hm1,hb,HF⟩:=hrel;clear HRR;have hB:=hb.size;cases hd:ks.drop i with
  | nil =>
   have h2:ks.length≤i:=it;have HE:Hid (m=R):=ab iE;clear hd HF;go_wp2
   go_ret
   exact⟨nA HE.out,hb⟩
  | cons y r =>
   obtain⟨h2,h3,hr⟩:=lC hd;by_cases hneg:m<0
   ·have HE:Hid (m=R):=ab (by rw [←HF.out,hd];simp only [Sn.leftL];rw [Jl hneg])
    have gn:decide (0≤m)=false:=JT gN;clear hd HF hr h3;go_wp2
    go_ret
    exact⟨nA HE.out,hb⟩
   ·have hym:=JH h3
    have hmy:=HM.out y hym;have hih:=IH.out y hym;have gn:decide (0≤m)=true:=JR gN;obtain⟨yk,yt,yn,yh,yu,yf,yo,ys⟩:=y;have HF2:Hid (Sn.leftL (ks.drop (i+1)) ((Sn.mk yk yt yn yh yu yf yo ys).left m)=R):=ab (by rw [hr,←HF.out,hd];simp only [Sn.leftL];rw [Jo hneg]);simp only [Sn.mem] at hmy;obtain⟨m1,m2,m3,m4,m5,m6⟩:=hmy;unfold maxLen at m1 m3 m4 m5;obtain⟨b,o,cc,rfl,hS,hbB,hyv,hcc⟩:=(HX.out.later hb).at_ h3;obtain⟨fc,oa,oc,ka,kc,hA⟩:=hyv.at_;have k1:wr.cell? ⟨b,o+i*18+1,none⟩=some (.string ⟨yt.toArray⟩):=by rw [J4];exact hcc 1 _ hA.c1
    have k16:wr.cell? ⟨b,o+i*18+16,none⟩=some (.slice oa yo.length oc):=by rw [J4];exact hcc 16 _ hA.c16
    have k17:wr.cell? ⟨b,o+i*18+17,none⟩=some (.slice ka ys.length kc):=by rw [J4];exact hcc 17 _ hA.c17
    have kf:∀(j:Nat) v,fc[j]?=some v→wr.cell? ⟨b,o+i*18+(5+j),none⟩=some v:=fun j v h=>by rw [J4];exact hcc (5+j) _ (hA.cf j v h)
    by_cases hout:m≤yt.length∨m≤yo.length
    ·have HE:Hid (R=-1):=ab (by
      rw [←HF2.out,show (Sn.mk yk yt yn yh yu yf yo ys).left m=-1 by simp only [Sn.left];rw [Jl hout]];exact tn _ _ gN)
     clear hd HF HF2 hr h3 hyv hcc hA kf hih m2 m4 m6 hym;exact eN
    ·have ht1:(yt.length:Int)<m:=gN
     have ho1:(yo.length:Int)<m:=gN;have hfb:=DT yf (m-1-yt.length) gN gN;have HFM0:=ab (fun(x:ExtOf wr)=>C1 S yf m2 fc x.val (m-1-yt.length) (hA.fv.keep (Kept.all x.ext)) gN gN);obtain⟨m2',hm2'⟩:∃m2',xg yf (m-1-yt.length)=m2':=⟨_,rfl⟩;rw [hm2'] at HFM0 hfb;obtain⟨f0,f1⟩:=hfb;obtain⟨R2,hR2⟩:∃R2,sW yo m2'=R2:=⟨_,rfl⟩;have HO0:Hid (sW (yo.drop 0) m2'=R2):=ab hR2;have HF3:Hid (Sn.leftL (ks.drop (i+1)) (finO ys R2)=R):=ab (by
      rw [←HF2.out];congr 1;simp only [Sn.left];rw [Jo hout,hm2',hR2];cases R2<;>rfl)
     have HKC:=ab (fun(w':World) (hb':Below wr.heap.size wr w') (m3:Int)=>hih S ka kc w' m3 (hA.kv.later hb'));have HOV:=ab hA.ov;have HM4:=ab m4;have K1:=ab k1;have K16:=ab k16;have K17:=ab k17;obtain⟨rk,rch,rng,rrs,rlo,rhi,rlz,rks,ra,rcp,rka,rkc,fa,fcp,hc⟩:=hA.fv.open_;have hfce:fc=[.int .i64 rk,.string ⟨rch.toArray⟩,.bool rng,.slice ra rrs.length rcp,.int .i64 rlo,.int .i64 rhi,.bool rlz,.slice rka rks.length rkc,.slice fa yf.fs.length fcp,.bool yf.fold,.bool yf.all]:=hc.eq;have HFM:=HFM0;rw [hfce] at HFM kf;have x1:∀x:ExtOf wr,x.val.cell? ⟨b,o+i*18+1,none⟩=some (.string ⟨yt.toArray⟩):=ExtOf.cell k1;have x5:∀x:ExtOf wr,x.val.cell? ⟨b,o+i*18+5,none⟩=some (.int .i64 rk):=ExtOf.cell (kf 0 _ rfl);have x6:∀x:ExtOf wr,x.val.cell? ⟨b,o+i*18+6,none⟩=some (.string ⟨rch.toArray⟩):=ExtOf.cell (kf 1 _ rfl);have x7:∀x:ExtOf wr,x.val.cell? ⟨b,o+i*18+7,none⟩=some (.bool rng):=ExtOf.cell (kf 2 _ rfl);have x8:∀x:ExtOf wr,x.val.cell? ⟨b,o+i*18+8,none⟩=some (.slice ra rrs.length rcp):=ExtOf.cell (kf 3 _ rfl);have x9:∀x:ExtOf wr,x.val.cell? ⟨b,o+i*18+9,none⟩=some (.int .i64 rlo):=ExtOf.cell (kf 4 _ rfl);have x10:∀x:ExtOf wr,x.val.cell? ⟨b,o+i*18+10,none⟩=some (.int .i64 rhi):=ExtOf.cell (kf 5 _ rfl);have x11:∀x:ExtOf wr,x.val.cell? ⟨b,o+i*18+11,none⟩=some (.bool rlz):=ExtOf.cell (kf 6 _ rfl);have x12:∀x:ExtOf wr,x.val.cell? ⟨b,o+i*18+12,none⟩=some (.slice rka rks.length rkc):=ExtOf.cell (kf 7 _ rfl);have x13:∀x:ExtOf wr,x.val.cell? ⟨b,o+i*18+13,none⟩=some (.slice fa yf.fs.length fcp):=ExtOf.cell (kf 8 _ rfl);have x14:∀x:ExtOf wr,x.val.cell? ⟨b,o+i*18+14,none⟩=some (.bool yf.fold):=ExtOf.cell (kf 9 _ rfl);have x15:∀x:ExtOf wr,x.val.cell? ⟨b,o+i*18+15,none⟩=some (.bool yf.all):=ExtOf.cell (kf 10 _ rfl);have hy2:(yo.length:Int)≤2000:=gN;clear hd HF HF2 hr h3 hyv hcc hA kf hih m2 m4 m6 hym hout hc hfce HFM0 hm2' hR2;go_upto_region 6 with fail
     refine kZ gT gT ?_;repeat (go_big_quiet_step ((go_at_call 19;exact lW (HFM.out _))))
     refine wpQuiet_nil ?_;rintro _ ⟨xq,rfl⟩;clear x1 x5 x6 x7 x8 x9 x10 x11 x12 x13 x14 x15;have hb6:=xq.ext;generalize xq.val=w6 at *
     have hB6:=hb6.size;have hbw6:=hb.trans (hb6.mono hB);have k16:=lP hb6 _ _ K16.out;have k17:=lP hb6 _ _ K17.out;have K16':=ab k16;have K17':=ab k17;clear K1 K16 K17;obtain⟨wo,rfl⟩:∃wo:World,wo=wr:=⟨_,rfl⟩;go_wp2
     go_loopw [1,6] (fun s q wk=>SoLRel yo R2 w6 s q wk) (fun _ q _=>yo.length-(intOf q).toNat)
     case atStart=>exact⟨0,m2',by omega,rfl,rfl,f0,f1,Below.refl _ _,HO0⟩
     case round =>
      obtain⟨j,m3,hj,rfl,rfl,g0,g1,hbj,HG⟩:=hrel;clear HO0 k16 k17;have hBj:=hbj.size;have k16:=lP hbj _ _ K16'.out;have k17:=lP hbj _ _ K17'.out;have hbwj:=hbw6.trans (hbj.mono hbw6.size);cases hd2:yo.drop j with
      | nil =>
       have h4:yo.length≤j:=by simpa using hd2
       have HE2:Hid (R2=some m3):=ab (by rw [←HG.out,hd2];rfl);clear hd2 HG;by_cases hneg3:m3<0
       ·have HEQ:Hid (Sn.leftL (ks.drop (i+1)) m3=R):=ab (by
         have h:=HF3.out;rw [HE2.out,show finO ys (some m3)=m3 by simp only [finO];rw [Jl hneg3]] at h;exact h)
        have gm:decide (0≤m3)=false:=JT gN;clear hneg3;go_wp2
        exact⟨⟨i+1,m3,by omega,by go_num,rfl,g0,g1,hbwj,HEQ⟩,by simp [intOf];omega⟩
       ·have HEQ:Hid (Sn.leftL (ks.drop (i+1)) (Sn.leftL ys m3)=R):=ab (by
         have h:=HF3.out;rw [HE2.out,show finO ys (some m3)=Sn.leftL ys m3 by simp only [finO];rw [Jo hneg3]] at h;exact h)
        have gm:decide (0≤m3)=true:=JR gN;have hlb:=D3 ys m3 g0 g1;have HC:=ab (HKC.out wr (hb6.trans (hbj.mono hB6)) m3 g0 g1);clear hneg3;go_wp2_with (go_at_call 8;refine HC.out.mono ?_)
        first|rintro e w2 rfl hb2|rintro e w2 ⟨rfl,hb2⟩
        go_wp2
        exact⟨⟨i+1,_,by omega,by go_num,rfl,hlb.1,hlb.2,hbwj.trans (hb2.mono hbwj.size),HEQ⟩,by simp [intOf];omega⟩
      | cons s r2 =>
       obtain⟨h4,h5,hr2⟩:=lC hd2;have hsl:=HM4.out s (JH h5);obtain⟨ob,oo,rfl,hoB,c0⟩:=(HOV.out.keep (Kept.all (hb6.trans (hbj.mono hB6)))).sl.str h5;have HG2:Hid (sW (s::r2) m3=R2):=ab (by rw [←hd2];exact HG.out);have Hr2:=ab hr2;clear hd2 HG hr2 h5;by_cases hout2:m3≤s.length
       ·have HE:Hid (R=-1):=ab (by
         have h2:R2=none:=by rw [←HG2.out];simp only [sW];rw [Jl hout2]
         rw [←HF3.out,h2];exact tn _ _ (by simp only [finO];omega))
        have gm:decide (m3≤(s.length:Int))=true:=JR hout2;clear HG2;go_wp2
        go_ret
        exact⟨nA HE.out.symm,hbwj⟩
       ·have HG3:Hid (sW (yo.drop (j+1)) (m3-1-s.length)=R2):=ab (by
         rw [Hr2.out,←HG2.out];simp only [sW];rw [Jo hout2])
        have gm:decide (m3≤(s.length:Int))=false:=JT hout2;have hs3:(s.length:Int)<m3:=gN;clear HG2 hout2;go_wp2
        go_roundw
        case rel=>exact⟨j+1,m3-1-s.length,by omega,by go_num,by go_num,by omega,by omega,hbj,HG3⟩
        case measure=>simp [intOf];omega
theorem mU:∀(N:Nat) (ks:List Sn),Sn.partsL ks<N→Sn.memL ks→ks.length≤maxLen→LsC ks
 | 0,ks,h,_,_=>by omega
 | N+1,ks,h,hm,hkl=>zR ks hm hkl (fun y hy=>by
   have h1:=Sn.parts_mem hy;have h2:=zj hm hy;obtain⟨yk,yt,yn,yh,yu,yf,yo,ys⟩:=y;simp only [Sn.mem] at h2;obtain⟨_,_,_,_,h5,h6⟩:=h2;simp only [Sn.parts] at h1;exact mU N ys gN h6 h5)
def rwt:List (Str × Str)→Nat
 | []=>0
 | r::rs=>1+r.1.length+r.2.length+rwt rs
namespace Rx
mutual
def wt:Rx→Nat
 | mk _ c _ rs _ _ _ ks=>1+c.length+rwt rs+wtL ks
def wtL:List Rx→Nat
 | []=>0
 | x::r=>wt x+wtL r
end
end Rx
theorem Eb:∀(rs:List (Str × Str)) (n m:Int),sR rs n=some m→m=n-rwt rs
 | [],n,m,h=>by simp only [sR] at h;injection h with h;subst h;simp [rwt]
 | r::rs,n,m,h=>by
  simp only [sR] at h;split at h
  ·cases h
  ·have:=Eb rs _ m h
   simp only [rwt];omega
theorem IB:∀(N:Nat) (x:Rx) (n:Int),x.parts≤N→0≤x.left n→x.left n=n-x.wt
 | 0,x,_,h,_=>by have:=Rx.parts_pos x;omega
 | N+1,.mk k c ng rs lo hi lz ks,n,h,h0=>by
  simp only [Rx.parts] at h;have hk:∀(l:List Rx) (m:Int),Rx.partsL l≤N→0≤Rx.leftK l m→Rx.leftK l m=m-Rx.wtL l:=by
   intro l;induction l with
   | nil=>intro m _ _;simp [Rx.leftK,Rx.wtL]
   | cons x r ih =>
    intro m hm a;simp only [Rx.partsL] at hm;simp only [Rx.leftK] at a ⊢;split at a
    ·omega
    ·rename_i hneg
     rw [Jo hneg];have h1:=ih _ gN a;by_cases hx:0≤x.left m
     ·have:=IB N x m gN hx
      simp only [Rx.wtL];omega
     ·exfalso
      cases r with
      | nil=>simp only [Rx.leftK] at a;omega
      | cons y r =>
       simp only [Rx.leftK] at a;rw [Jl gN] at a;omega
  simp only [Rx.left] at h0 ⊢;split at h0
  ·omega
  ·rename_i hc
   rw [Jo hc];split at h0
   ·omega
   ·rename_i m hm
    have h2:=Eb rs _ m hm;have h3:=hk ks m gN h0;simp only [Rx.wt];show Rx.leftK ks m=_
    omega
theorem uQ:∀(N:Nat) (x:Rx),x.parts≤N→x.parts≤x.wt
 | 0,x,h=>by have:=Rx.parts_pos x;omega
 | N+1,.mk k c ng rs lo hi lz ks,h=>by
  simp only [Rx.parts] at h;have hk:∀(l:List Rx),Rx.partsL l≤N→Rx.partsL l≤Rx.wtL l:=by
   intro l;induction l with
   | nil=>intro _;simp [Rx.partsL,Rx.wtL]
   | cons x r ih =>
    intro hm;simp only [Rx.partsL] at hm;simp only [Rx.partsL,Rx.wtL];have:=uQ N x gN
    have:=ih gN
    omega
  have:=hk ks gN
  simp only [Rx.parts,Rx.wt];omega
theorem I7:∀{rs:List (Str × Str)},rs.length≤rwt rs∧∀r∈rs,r.1.length≤rwt rs∧r.2.length≤rwt rs
 | []=>by simp [rwt]
 | r::rs=>by
  obtain⟨h1,h2⟩:=I7 (rs:=rs);simp only [rwt,Jr];exact cO
theorem yP:∀(N:Nat) (x:Rx),x.parts≤N→x.wt≤1000000→x.small
 | 0,x,h,_=>by have:=Rx.parts_pos x;omega
 | N+1,.mk k c ng rs lo hi lz ks,h,hw=>by
  simp only [Rx.parts] at h;simp only [Rx.wt] at hw;have hk:∀(l:List Rx),Rx.partsL l≤N→Rx.wtL l≤1000000→Rx.smallL l:=by
   intro l;induction l with
   | nil=>intro _ _;simp [Rx.smallL]
   | cons x r ih =>
    intro hm hw;simp only [Rx.partsL] at hm;simp only [Rx.wtL] at hw;simp only [Rx.smallL];exact⟨yP N x gN gN,ih gN gN⟩
  obtain⟨r1,r2⟩:=I7 (rs:=rs);have hl:=Rx.len_parts ks;have hp:Rx.partsL ks≤Rx.wtL ks:=by
   have:=uQ _ (.mk k [] ng [] lo hi lz ks) (Ju _)
   simp only [Rx.parts,Rx.wt,rwt,J0] at this;omega
  simp only [Rx.small,Rx.small1];refine⟨⟨by omega,by omega,fun r hr=>?_,by omega⟩,hk ks gN gN⟩;have:=r2 r hr;omega
theorem D4:∀(rs:List (Str × Str)),(rs.flatMap rowS).length≤3*rwt rs
 | []=>by simp
 | r::rs=>by
  have ih:=D4 rs;have h1:=sq th2 r.1;have h2:=sq th2 r.2;have h3:(rowS r).length≤r.1.length+1+(r.2.length+2):=by
   unfold rowS;split<;>simp<;>omega
  rw [Jz,JA];simp only [rwt];omega
theorem uV:∀(N:Nat) (x:Rx),x.parts≤N→x.wf=true→x.tell.length+1≤15*x.wt
 | 0,x,h,_=>by have:=Rx.parts_pos x;omega
 | N+1,.mk k c ng rs lo hi lz ks,h,hwf=>by
  obtain⟨hf,hwl⟩:=wf_mk hwf;simp only [Rx.parts] at h;have hk:∀(l:List Rx),Rx.partsL l≤N→Rx.wfL l=true→(Rx.tellL l).length≤15*Rx.wtL l∧∀b,(Rx.tellA b l).length≤15*Rx.wtL l:=by
   intro l;induction l with
   | nil=>intro _ _;simp [Rx.tellL,Rx.tellA,Rx.wtL]
   | cons x r ih =>
    intro hm hw;simp only [Rx.partsL] at hm;simp only [Rx.wfL,Jy] at hw;have h1:=uV N x gN hw.1;obtain⟨h2,h3⟩:=ih gN hw.2;simp only [Rx.tellL,Rx.tellA,Rx.wtL,JA];refine⟨by omega,fun b=>?_⟩;have h4:=h3 true;cases b<;>simp<;>omega
  obtain⟨h1,h2⟩:=hk ks gN hwl;have h3:=h2 false;have e1:=sq th1 c;have e2:=D4 rs;simp only [Rx.wt];rcases CV hf with rfl|rfl|rfl|rfl|rfl|rfl|rfl|rfl|rfl|rfl|rfl|rfl
  ·simp [Rx.tell];omega
  ·simp [Rx.tell];omega
  ·simp [Rx.tell];omega
  ·simp [Rx.tell];omega
  ·simp only [Rx.tell]
   rw [Jo gR,Jo gR,Jo gR,Jo gR,Jo gR,Jo gR,Jo gR,Jo gR,Jl trivial];unfold setS;cases ng<;>simp only [J1,if_false,if_true,Jr,JA,J0]<;>omega
  ·simp [Rx.tell];omega
  ·simp [Rx.tell];omega
  ·simp only [lI] at hf
   rw [Jo gR,Jo gR,Jl trivial] at hf;simp only [Jy,Jj] at hf;have h5:=oftS_len hf.2.1 hf.2.2.1 hf.2.2.2;cases lz<;>simp [Rx.tell]<;>omega
  ·simp [Rx.tell];omega
  ·simp [Rx.tell];omega
  ·simp [Rx.tell];omega
  ·simp [Rx.tell];omega
theorem DS {f:Fm} (hm:mayF f=true):(o4 f).length≤2*(f.thn.length+f.els.length)+22:=by
 exact cL
theorem AE (f:Tf):(vA f).length≤2:=by unfold vA;(repeat' split)<;>simp
def pV:List Str→Nat
 | []=>0
 | a::l=>2*a.length+1+pV l
theorem wK:∀l:List Str,(pb l).length≤pV l
 | []=>by simp [pb]
 | [a]=>by have:=nV fiveS a;simp only [pb,pV];omega
 | a::b::l=>by
  have h1:=nV fiveS a;have h2:=wK (b::l);simp only [pb,pV,JA,Jr] at h2 ⊢;omega
def fwt:List Fm→Nat
 | []=>0
 | f::r=>1+f.thn.length+f.els.length+fwt r
def owt:List Str→Nat
 | []=>0
 | s::r=>1+s.length+owt r
def CL (f:Tf):Nat:=f.rx.wt+fwt f.fs
namespace Sn
mutual
def wt:Sn→Nat
 | mk _ t _ _ _ f o ks=>1+t.length+CL f+owt o+wtL ks
def wtL:List Sn→Nat
 | []=>0
 | x::r=>wt x+wtL r
end
end Sn
theorem Dj:∀(fs:List Fm) (m:Int),0≤qC fs m→qC fs m=m-fwt fs
 | [],m,_=>by simp [qC,fwt]
 | f::r,m,h=>by
  simp only [qC] at h ⊢;split at h
  ·omega
  ·rename_i hc
   rw [Jo hc];have:=Dj r _ h
   simp only [fwt];omega
theorem formL_eq (f:Tf) (n:Int) (h:0≤xg f n):xg f n=n-CL f:=by
 unfold xg at h ⊢;split at h
 ·omega
 ·rename_i hc
  rw [Jo hc];have h1:=IB _ f.rx n (Ju _) gN;have h2:=Dj _ _ h;unfold CL;omega
theorem Dl:∀(o:List Str) (n m:Int),sW o n=some m→m=n-owt o
 | [],n,m,h=>by simp only [sW] at h;injection h with h;subst h;simp [owt]
 | s::r,n,m,h=>by
  simp only [sW] at h;split at h
  ·cases h
  ·have:=Dl r _ m h
   simp only [owt];omega
theorem En:∀(N:Nat) (x:Sn) (n:Int),x.parts≤N→0≤x.left n→x.left n=n-x.wt
 | 0,x,_,h,_=>by have:=Sn.parts_pos x;omega
 | N+1,.mk k t n0 hh u f o ks,n,h,h0=>by
  simp only [Sn.parts] at h;have hk:∀(l:List Sn) (m:Int),Sn.partsL l≤N→0≤Sn.leftL l m→Sn.leftL l m=m-Sn.wtL l:=by
   intro l;induction l with
   | nil=>intro m _ _;simp [Sn.leftL,Sn.wtL]
   | cons x r ih =>
    intro m hm a;simp only [Sn.partsL] at hm;simp only [Sn.leftL] at a ⊢;split at a
    ·omega
    ·rename_i hneg
     rw [Jo hneg];have h1:=ih _ gN a;by_cases hx:0≤x.left m
     ·have:=En N x m gN hx
      simp only [Sn.wtL];omega
     ·exfalso
      rw [tn _ _ gN] at a;omega
  simp only [Sn.left] at h0 ⊢;split at h0
  ·omega
  ·rename_i hc
   rw [Jo hc];split at h0
   ·omega
   ·rename_i m hm
    split at h0
    ·omega
    ·rename_i hneg
     have h2:=Dl o _ m hm;have h4:=formL_eq f (n-1-t.length) gN;have h3:=hk ks m gN h0;show (if m<0 then m else Sn.leftL ks m)=_
     rw [Jo hneg,h3];simp only [Sn.wt];omega
theorem qW (l:List Sn) (m:Int) (a:0≤Sn.leftL l m):Sn.leftL l m=m-Sn.wtL l:=by
 induction l generalizing m with
 | nil=>simp [Sn.leftL,Sn.wtL]
 | cons x r ih =>
  simp only [Sn.leftL] at a ⊢;split at a
  ·omega
  ·rename_i hneg
   rw [Jo hneg];have h1:=ih _ a;by_cases hx:0≤x.left m
   ·have:=En _ x m (Ju _) hx
    simp only [Sn.wtL];omega
   ·exfalso
    rw [tn _ _ gN] at a;omega
theorem Cf:∀{fs:List Fm},fs.length≤fwt fs∧∀f∈fs,f.thn.length≤fwt fs∧f.els.length≤fwt fs
 | []=>by simp [fwt]
 | f::r=>by
  obtain⟨h1,h2⟩:=Cf (fs:=r);simp only [fwt,Jr];exact cO
theorem CF:∀{o:List Str},o.length≤owt o∧∀s∈o,s.length≤owt o
 | []=>by simp [owt]
 | s::r=>by
  obtain⟨h1,h2⟩:=CF (o:=r);simp only [owt,Jr];exact cO
theorem AQ:∀(N:Nat) (x:Sn),x.parts≤N→x.parts≤x.wt
 | 0,x,h=>by have:=Sn.parts_pos x;omega
 | N+1,.mk k t n hh u f o ks,h=>by
  simp only [Sn.parts] at h;have hk:∀(l:List Sn),Sn.partsL l≤N→Sn.partsL l≤Sn.wtL l:=by
   intro l;induction l with
   | nil=>intro _;simp [Sn.partsL,Sn.wtL]
   | cons x r ih =>
    intro hm;simp only [Sn.partsL] at hm;simp only [Sn.partsL,Sn.wtL];have:=AQ N x gN
    have:=ih gN
    omega
  have:=hk ks gN
  simp only [Sn.parts,Sn.wt];omega
theorem nu:∀l:List Sn,Sn.partsL l≤Sn.wtL l
 | []=>by simp [Sn.partsL,Sn.wtL]
 | x::r=>by have:=AQ _ x (Ju _);have:=nu r;simp only [Sn.partsL,Sn.wtL];omega
theorem yj {f:Tf} (h:CL f≤1000000):f.small:=by
 unfold CL at h;have h1:=uQ _ f.rx (Ju _);have h2:=(Cf (fs:=f.fs)).1;exact⟨yP _ f.rx (Ju _) gN,by omega,by omega⟩
mutual
theorem Hp:∀x:Sn,x.wt≤1000000→x.small
 | .mk k t n h u f o ks,hw=>by
  simp only [Sn.wt] at hw;have h1:=(CF (o:=o)).1;have h2:=Sn.len_parts ks;have h3:=nu ks;exact⟨yj gN,by omega,by omega,by omega,nt ks gN⟩
theorem nt:∀l:List Sn,Sn.wtL l≤1000000→Sn.smallL l
 | [],_=>trivial
 | x::r,hw=>by
  simp only [Sn.wtL] at hw;exact⟨Hp x gN,nt r gN⟩
end
theorem A7:∀{fs:List Fm},(∀f∈fs,mayF f=true)→(mN fs).length≤22*fwt fs
 | [],_=>by simp [mN]
 | f::r,h=>by
  have h1:=DS (h f (JE ..));have h2:=A7 (fs:=r) (fun g hg=>h g (JF _ hg));have e:mN (f::r)=o4 f++mN r:=by simp [mN]
  rw [e,JA];simp only [fwt];omega
theorem GS {fs:List Fm} (h:uN fs=true):(mN fs).length≤22*fwt fs:=A7 (zy _ _ h)
theorem Ap {f:Tf} (h:oZ f=true∨tfZ f=true):f.rx.tell.length≤15*f.rx.wt∧(mN f.fs).length≤22*fwt f.fs:=by
 rcases h with h|h
 ·unfold oZ at h
  rw [Jy] at h;have hwf:f.rx.wf=true:=by
   have h:=h.1;simp only [mayB,okB,Jy] at h;exact h.1.1
  have:=uV _ f.rx (Ju _) hwf
  exact⟨by omega,GS h.2⟩
 ·unfold tfZ at h
  rw [Jy,Jy,List.isEmpty_iff] at h;obtain⟨X,fs,fd,al⟩:=f;obtain⟨hz,hfs,_⟩:=h;obtain rfl:fs=[]:=hfs;obtain rfl:X=rx0:=by
   obtain⟨k,c,ng,rs,lo,hi,lz,ks⟩:=X;have hz':rxZ (.mk k c ng rs lo hi lz ks)=true:=hz;simp only [rxZ,Jy,Jj,List.isEmpty_iff,J9] at hz';obtain⟨rfl,rfl,rfl,rfl,rfl,rfl,rfl,rfl⟩:=hz';rfl
  exact⟨(by decide:(rx0.tell).length≤15*rx0.wt),by simp [mN]⟩
theorem DG {x:Sn} (h:lT x=true):oZ x.form=true∨tfZ x.form=true:=by
 unfold lT nX at h;split at h
 ·split at h
  ·cases h
  ·exact .inr h
 ·split at h
  ·rw [Jy] at h;exact .inl h.2
  ·simp only [Jy] at h;exact .inr h.2.2.2
theorem wZ {x:Sn} (h:mB x=true):oZ x.form=true∨tfZ x.form=true:=by
 unfold mB at h;split at h
 ·unfold nX at h;simp only [Jy] at h;exact .inr h.2.2.2.2.2.2
 split at h
 ·simp only [Jy] at h;exact DG h.2.2.2
 split at h
 ·unfold nX at h;simp only [Jy] at h;exact .inr h.2.2.2.2.2.2
 split at h
 ·simp only [Jy] at h;exact DG h.2.2.2
 ·cases h
theorem FM {x:Sn} (h:mB x=true):0≤x.n∧x.n≤9999:=by
 unfold mB sQ at h;split at h
 ·exact dj
 split at h
 ·exact dj
 split at h
 ·exact dj
 split at h
 ·exact dj
 ·cases h
theorem AI:∀o:List Str,pV o≤2*owt o
 | []=>by simp [pV,owt]
 | a::l=>by have:=AI l;simp only [pV,owt];omega
theorem Af {k:Int} {t:Str} {n:Int} {u:Bool} {f:Tf} {o:List Str} {ks:List Sn} (hf:mB (.mk k t n false u f o ks)=true):Sn.wfL ks=true:=by
 rw [wV hf];rfl
mutual
theorem FZ:∀x:Sn,x.wf=true→x.tell.length≤40*x.wt
 | .mk k t n h u f o ks,hw=>by
  rw [Sn.wf,Jy] at hw;have hwl:Sn.wfL ks=true:=by
   exact dz
  have h1:=nJ ks hwl;obtain⟨f1,f2⟩:=Ap (wZ hw.1);obtain⟨n0,n1⟩:=FM hw.1;have h3:=rm n0 n1;have h4:=nV three t;have h5:=wK o;have h6:=AI o;have h7:=AE f;have f1':f.rx.tell.length≤15*f.rx.wt:=f1;have f2':(mN f.fs).length≤22*fwt f.fs:=f2;have h3':(dec n).length≤4:=h3.2;have h8:(pK k t n).length≤t.length+4:=by unfold pK;split<;>omega
  have h9:(pH f).length≤5+15*f.rx.wt+22*fwt f.fs:=by unfold pH;simp;omega
  simp only [Sn.tell,Sn.wt];unfold CL;split
  ·omega
  ·split
   ·simp;omega
   ·have h10:((if h=true then 58::Sn.tellL ks else []):Str).length≤1+40*Sn.wtL ks:=by split<;>simp;omega
    have h11:((if u=true then pH f else []):Str).length≤5+15*f.rx.wt+22*fwt f.fs:=by
     split
     ·exact h9
     ·simp
    simp only [Jr,JA,J0];omega
theorem nJ:∀l:List Sn,Sn.wfL l=true→(Sn.tellL l).length≤40*Sn.wtL l
 | [],_=>by simp [Sn.tellL]
 | x::r,hw=>by
  simp only [Sn.wfL,Jy] at hw;have h1:=FZ x hw.1;have h2:=nJ r hw.2;simp only [Sn.tellL,Sn.wtL,JA];omega
end
mutual
theorem tinyS_wt:∀x:Sn,x.wf=true→x.wt≤1000→x.tiny
 | .mk k t n h u f o ks,hw,hwt=>by
  simp only [Sn.wt] at hwt;rw [Sn.wf,Jy] at hw;have hwl:Sn.wfL ks=true:=by
   exact dz
  obtain⟨f1,f2⟩:=Ap (wZ hw.1);have f1':f.rx.tell.length≤15*f.rx.wt:=f1;have f2':(mN f.fs).length≤22*fwt f.fs:=f2;obtain⟨o1,o2⟩:=CF (o:=o);obtain⟨g1,g2⟩:=Cf (fs:=f.fs);have h2:=Sn.len_parts ks;have h3:=nu ks;have hfw:CL f=f.rx.wt+fwt f.fs:=rfl;simp only [Sn.tiny];refine⟨⟨yj gN,by omega,fun g hg=>?_,by omega,by omega⟩,by omega,by omega,fun s hs=>?_,by omega,nS ks hwl gN⟩
  ·have:=g2 g hg;omega
  ·have:=o2 s hs;omega
theorem nS:∀l:List Sn,Sn.wfL l=true→Sn.wtL l≤1000→Sn.tinyL l
 | [],_,_=>trivial
 | x::r,hw,hwt=>by
  simp only [Sn.wfL,Jy] at hw;simp only [Sn.wtL] at hwt;simp only [Sn.tinyL];exact⟨tinyS_wt x hw.1 gN,nS r hw.2 gN⟩
end
open Go.RowKit
theorem Dh (B g:Nat) (htb:1<B):∀(N:Nat) (ks:List Sn),Sn.partsL ks<N→Sn.tinyL ks→ks.length≤1000000→Sn.wfL ks=true→ShwC B g ks
 | 0,ks,h,_,_,_=>by omega
 | N+1,ks,h,hti,hkl,hwf=>EA B g ks hti hkl hwf htb (fun y hy hh=>by
   have h1:=Sn.parts_mem hy;have h2:=rK hti y hy;have h3:=zi hwf y hy;obtain⟨yk,yt,yn,yh,yu,yf,yo,ys⟩:=y;simp only [Sn.tiny] at h2;obtain⟨_,_,_,_,h5,h6⟩:=h2;simp only [Sn.parts] at h1;obtain rfl:yh=true:=hh;rw [Sn.wf,Jy,Bool.not_true,Bool.false_or,Jy] at h3;exact Dh B g htb N ys gN h6 h5 h3.2.2)
theorem mH (S:Nat→Prop) (ks:List Sn) (hti:Sn.tinyL ks) (hkl:ks.length≤1000000) (hm:nM ks=true) (hl:(Sn.tellL ks).length≤10000000) (a:Option Addr) (c:Nat) (w:World) (hS:∀b,S b→b<w.heap.size) (ht:Tab w) (hx:SnSl w S a ks.length ks) :
  Calls Tryz.prog 10 #[.slice a ks.length c] w fun e w'=>e=.returned (.tuple #[.string ⟨(Sn.tellL ks).toArray⟩,.int .i64 0])∧Below w.heap.size w w':=by
 have HM:=ab (pS S ks (pF ks hti) hkl a c w hx);rw [hm] at HM;have hwf:Sn.wfL ks=true:=by
  unfold nM at hm;rw [Jy,Jy] at hm;exact hm.1.2
 have htb:=ht.lt;have HSH:=ab (fun g=>Dh w.heap.size g htb (Sn.partsL ks+1) ks gN hti hkl hwf);have HX:=ab hx;have HT:=ab ht;have HS:=ab hS;clear hx hm hti hwf ht hS;go_enter Tryz.func10,Tryz.ntmps10
 go_wp2_with (go_at_call 11;refine HM.out.mono ?_)
 first|rintro e w1 rfl hb1|rintro e w1 ⟨rfl,hb1⟩
 have hb2:Below w1.heap.size w1 (w1.alloc (.cells #[.pointer none,.slice none 0 0] 54)):=(Below.refl _ _).alloc (Ju _) _;have hbw:=bel2 hb1 hb2;have HC:=ab (HSH.out w1.heap.size S a c [] _ (Bld.fresh w.heap.size w1 hb1.size) ((HT.out.keep hb1).keep hb2) hbw.size HS.out ((HX.out.later hb1).later hb2) jU);rw [JV] at HC;have HBW:=ab hbw;have hz1:=hb1.size;clear hb1 hb2 hbw;go_wp2_with (go_at_call 20;refine HC.out.mono ?_)
 first|rintro e w3 rfl hbl3 hfr3|rintro e w3 ⟨rfl,hbl3,hfr3⟩
 have hb3:=HBW.out.trans (hfr3.below gV (by simpa using hz1));have HB3:=ab hb3;have hsz3:=hb3.size;clear hfr3 hb3;go_wp2_with (go_at_call 21;refine(si _ _ _ _ hbl3 hsz3).mono ?_)
 first|rintro e w4 rfl hb4|rintro e w4 ⟨rfl,hb4⟩
 go_wp2
 go_ret2
 exact⟨rfl,HB3.out.trans hb4⟩
open Go.RowKit
def awA:Sn:=.mk 1 [] 1 true false tf0 [] [pM [97,125]]
def awB:Sn:=.mk 2 [] 2 false false tf0 [[97],[98,44,99]] []
def awT:Str:=[36,123,49,58,97,92,125,125,36,123,50,124,97,44,98,92,44,99,124,125]
theorem AN:Sn.tellL [awA,awB]=awT:=by kernel_rfl
theorem awAB_may:nM [awA,awB]=true:=by kernel_rfl
theorem awAB_wf:Sn.wfL [awA,awB]=true:=by kernel_rfl
theorem awAB_wt:Sn.wtL [awA,awB]≤1000:=by decide
def awK1:Obj:=.cells #[.int .i64 0,.string ⟨([97,125]).toArray⟩,.int .i64 0,.bool false,.bool false,.int .i64 0,.string ⟨#[]⟩,.bool false,.slice none 0 0,.int .i64 0,.int .i64 0,.bool false,.slice none 0 0,.slice none 0 0,.bool false,.bool false,.slice none 0 0,.slice none 0 0] 44
def awK2:Obj:=.cells #[.string ⟨([97]).toArray⟩,.string ⟨([98,44,99]).toArray⟩] 9
def awK3 (b:Nat):Obj:=.cells #[.int .i64 1,.string ⟨[].toArray⟩,.int .i64 1,.bool true,.bool false,.int .i64 0,.string ⟨#[]⟩,.bool false,.slice none 0 0,.int .i64 0,.int .i64 0,.bool false,.slice none 0 0,.slice none 0 0,.bool false,.bool false,.slice none 0 0,.slice (some ⟨b,0,none⟩) 1 1,.int .i64 2,.string ⟨[].toArray⟩,.int .i64 2,.bool false,.bool false,.int .i64 0,.string ⟨#[]⟩,.bool false,.slice none 0 0,.int .i64 0,.int .i64 0,.bool false,.slice none 0 0,.slice none 0 0,.bool false,.bool false,.slice (some ⟨b+1,0,none⟩) 2 2,.slice none 0 0] 44
def awSW (w:World):World:=((w.alloc awK1).alloc awK2).alloc (awK3 w.heap.size)
theorem E1 (w:World):Below w.heap.size w (awSW w):=(((Below.refl _ _).alloc (Ju _) _).alloc gU _).alloc gV _
theorem awSW_v (w:World):SnSl (awSW w) Any (some ⟨w.heap.size+2,0,none⟩) 2 [awA,awB]:=by
 have h0:(awSW w).heap[w.heap.size]?=some awK1:=by
  unfold awSW;rw [Below.heap_alloc _ _ _ gV,Below.heap_alloc _ _ _ gU];exact heap_alloc_new w _
 have h1:(awSW w).heap[w.heap.size+1]?=some awK2:=by
  unfold awSW;rw [Below.heap_alloc _ _ _ gU];have:=heap_alloc_new (w.alloc awK1) awK2;simpa using this
 have h2:(awSW w).heap[w.heap.size+2]?=some (awK3 w.heap.size):=by
  unfold awSW;have:=heap_alloc_new ((w.alloc awK1).alloc awK2) (awK3 w.heap.size);simpa using this
 have s1:SnSl (awSW w) Any (some ⟨w.heap.size,0,none⟩) 1 [pM [97,125]]:=SnSl.one (hd_v _ _ 0 [97,125] 0) h0 trivial;have s2:SlS (awSW w) Any (some ⟨w.heap.size+1,0,none⟩) 1 2 (mE [[97],[98,44,99]]):=(Sl.lit (sz:=1) (n:=2) h1 rfl).slAny;refine⟨[_,_],?_,.cons (hx_v (os:=[]) (ks:=[pM [97,125]]) (oa:=none) (oc:=0) (ka:=some ⟨w.heap.size,0,none⟩) (kc:=1) (SlS.none_ _ _ _ _) s1) (.cons (hx_v (os:=[[97],[98,44,99]]) (ks:=[]) (oa:=some ⟨w.heap.size+1,0,none⟩) (oc:=2) (ka:=none) (kc:=0) s2 (SnSl.nil _ _ _)) .nil)⟩;exact(Sl.lit (sz:=18) (n:=2) h2 rfl).slAny
theorem nc (w:World) (ht:Tab w):Calls Tryz.prog 9 #[] w fun e w'=>e=.returned (.bool true)∧Below w.heap.size w w':=by
 have hb:=E1 w;have H:Calls Tryz.prog 10 #[.slice (some ⟨w.heap.size+2,0,none⟩) 2 2] (awSW w) fun e w'=>e=.returned (.tuple #[.string ⟨(Sn.tellL [awA,awB]).toArray⟩,.int .i64 0])∧Below (awSW w).heap.size (awSW w) w' :=
  mH (fun b=>b<(awSW w).heap.size) [awA,awB] (nS _ awAB_wf awAB_wt) gR awAB_may (by rw [AN];decide) _ 2 _ (fun _ h=>h) (ht.keep hb) ((awSW_v w).mono (fun _ _ h=>h))
 rw [AN] at H;unfold awSW awK1 awK2 awK3 awT at H;unfold awSW awK1 awK2 awK3 at hb;have HB:=ab hb;have HH:=ab H;clear ht H hb;go_enter Tryz.func9,Tryz.ntmps9
 go_wp2_with (go_at_call 10;refine HH.out.mono ?_)
 first|rintro e w1 rfl hb1|rintro e w1 ⟨rfl,hb1⟩
 go_wp2
 go_ret
 exact⟨rfl,HB.out.trans (hb1.mono gN)⟩
open Go.RowKit
theorem Cg {s:Str} {x:Rx} (h:qU s=.ok x):x.small∧x.parts≤1000:=by
 obtain⟨a1,a2,a3⟩:=readM_ok.1 h;have:=oE s
 obtain⟨f1,f2,f3,f4⟩:=rO _ _ _ _ _ gN a3 (tr gN);exact⟨f1,by simp at f2;omega⟩
theorem yd (tx:Str) (fs:List Fm):(m9 tx fs).length≤fs.length+1:=by unfold m9;split<;>simp
theorem pW:∀(k:Nat) (r tx:Str) (fs:List Fm) {gs:List Fm} {s:Str},pE k r tx fs=some (gs,s)→gs.length≤fs.length+2*r.length+1
 | 0,_,_,_,_,_,h=>by cases h
 | _+1,[],_,_,_,_,h=>by cases h
 | k+1,c::r,tx,fs,gs,s,h=>by
  simp only [pE] at h;split at h
  ·injection h with h;injection h with h h';subst h;subst h'
   have:=yd tx fs
   omega
  ·split at h
   ·split at h
    ·rename_i p hp
     obtain⟨f,s'⟩:=p;have h1:=rD hp;have h2:=pW k _ _ _ h;have h3:=yd tx fs;simp at h2 ⊢
     omega
    ·have h2:=pW k _ _ _ h
     simp at h2 ⊢;omega
   ·split at h
    ·have h2:=pW k _ _ _ h
     simp at h2 ⊢
     omega
    ·have h2:=pW k _ _ _ h
     simp at h2 ⊢;omega
theorem wX {r:Str} {f:Tf} {s:Str} (h:oq r=some (f,s)) (hr:r.length≤100000):f.small:=by
 cases r with
 | nil=>cases h
 | cons c r =>
  simp only [oq] at h;split at h
  ·split at h
   ·cases h
   ·rename_i heq
    split at h
    ·cases h
    ·rename_i hx
     split at h
     ·cases h
     ·cases h
     ·rename_i heq2
      obtain⟨h1,h2⟩:=qu h;have h3:=pW _ _ _ _ heq2;have h4:=(tE r []).length_le;rw [heq] at h4;obtain⟨h5,h6⟩:=Cg hx;unfold Tf.small;rw [h1,h2];simp at h3 h4 hr
      exact⟨h5,by omega,by omega⟩
  ·cases h
theorem vi:∀(n:Nat) (r:Str) (o:List Str) (t:Str),r.length≤n→(optL r o t).1.length≤o.length+r.length+1
 | _,[],o,t,_=>by simp [optL]
 | 0,c::r,o,t,h=>by simp at h
 | n+1,c::r,o,t,h=>by
  simp only [Jr] at h;rw [nG];split
  ·simp
  ·split
   ·have:=vi n r (o++[t]) [] gN;simp at this ⊢;omega
   ·have h1:=nU fiveS c r
    have:=vi n (nxtM fiveS (c::r)).2 o (t++[(nxtM fiveS (c::r)).1]) gN;simp;omega
theorem Hd.small {x:Sn} (h:Hd x):x.small∧x.kids=[]∧x.opts=[]:=by
 rcases h with⟨n,_,rfl⟩|⟨t,ht,rfl⟩
 ·exact⟨⟨tL,by simp,by simp,by simp,trivial⟩,rfl,rfl⟩
 ·refine⟨⟨tL,by simp,by simp,?_,trivial⟩,rfl,rfl⟩
  exact dP
theorem Hd.give_small {x:Sn} (h:Hd x) {ks:List Sn} (h1:Sn.smallL ks) (h2:ks.length≤1000000):(x.give ks).small:=by
 obtain⟨hs,_,_⟩:=h.small;obtain⟨k,t,n,hh,u,f,o,l⟩:=x;obtain⟨a,b,_,d,_⟩:=hs;exact⟨a,b,h2,d,h1⟩
theorem Hd.turn_small {x:Sn} (h:Hd x) {f:Tf} (hf:f.small):(x.turn f).small:=by
 obtain⟨hs,_,_⟩:=h.small;obtain⟨k,t,n,hh,u,f',o,l⟩:=x;obtain⟨a,b,c,d,e⟩:=hs;exact⟨hf,b,c,d,e⟩
theorem Hd.choose_small {x:Sn} (h:Hd x) {o:List Str} (ho:o.length≤1000000):(x.choose o).small:=by
 obtain⟨hs,_,_⟩:=h.small;obtain⟨k,t,n,hh,u,f',o',l⟩:=x;obtain⟨a,b,c,d,e⟩:=hs;exact⟨a,ho,c,d,e⟩
theorem AG {ps:Str→List Sn × Str} {x y:Sn} {r s:Str} (hx:Hd x) (hr:r.length≤100000) (hps:∀t,t.length<r.length→Sn.smallL (ps t).1∧(ps t).1.length≤1000000) (h:lE ps x r=some (y,s)):y.small:=by
 cases r with
 | nil=>cases h
 | cons c r =>
  simp only [lE] at h;split at h
  ·injection h with h;injection h with h h';subst h;exact hx.small.1
  ·split at h
   ·obtain⟨h1,h2⟩:=hps r gU
    split at h
    ·cases h
    ·injection h with h;injection h with h h';subst h;exact hx.give_small h1 h2
   ·split at h
    ·unfold re at h
     split at h
     ·split at h
      ·injection h with h;injection h with h h';subst h
       have:=vi r.length r [] [] (Ju _)
       simp at this hr
       exact hx.choose_small gN
      ·cases h
     ·cases h
    ·split at h
     ·cases h
     ·rename_i heq
      injection h with h;injection h with h h';subst h
      exact hx.turn_small (wX heq hr)
theorem Cs {t:Str} (h:t.length≤1000000):(pM t).small:=⟨tL,by simp,by simp,h,trivial⟩
theorem qN {t:Str} (h:t.length≤1000000):Sn.smallL (lO [] t):=by
 unfold lO;split
 ·trivial
 ·exact⟨Cs h,trivial⟩
theorem uj (ins:Bool) (t r:Str):(lu ins [] t r).1.length≤r.length+1:=by
 have h1:=((r8 r.length).2 ins t r (Ju _)).2.2.1;have h2:=Sn.len_parts (lu ins [] t r).1;have:=tl_le t
 omega
theorem vZ:∀(N:Nat),N≤100000→(∀r x s,r.length≤N→l7 r=some (x,s)→x.small)∧(∀ins t r,r.length≤N→t.length+r.length≤100000→Sn.smallL (lu ins [] t r).1)
 | 0,_=>by
  refine⟨fun r x s h hp=>?_,fun ins t r h ht=>?_⟩
  ·exact bK
  ·have:r=[]:=Jm gN
   subst this;rw [me];exact qN gN
 | N+1,hN=>by
  obtain⟨ih1,ih2⟩:=vZ N gN;have k1:∀r x s,r.length≤N+1→l7 r=some (x,s)→x.small:=fun r x s hr h=>by
   rw [oL] at h;cases r with
   | nil=>cases h
   | cons c r =>
    simp only [Jr] at hr;simp only [oO] at h;split at h
    ·split at h
     ·cases h
     ·rename_i heq
      have h1:=mD heq;exact AG (nW heq) gN (fun t ht=>⟨ih2 true [] t gN gV,by have:=uj true [] t;omega⟩) h
    ·exact(nW h).small.1
  refine⟨k1,fun ins t r hr ht=>?_⟩;cases r with
  | nil=>rw [me];exact qN (by simp at ht;omega)
  | cons c r =>
   simp only [Jr] at hr ht;rw [l6];split
   ·exact qN gN
   ·split
    ·rename_i x r2 he
     have hx:l7 r=some (x,r2):=by
      exact cG
     have h1:=nR hx;rw [nB ins r2.length (lO [] t++[x]) [] r2 (Ju _)];refine Sn.smallL_app.2 ⟨Sn.smallL_app.2 ⟨qN gN,k1 r x r2 gN hx,trivial⟩,ih2 ins [] r2 gN gV⟩
    ·exact dO
theorem sr {s:Str} (h:s.length≤100000):Sn.smallL (nn s)∧(nn s).length≤1000000∧Sn.partsL (nn s)≤1000000:=by
 rw [oz];have h1:=((r8 s.length).2 false [] s (Ju _)).2.2.1;have h2:=uj false [] s;exact⟨(vZ s.length h).2 false [] s (Ju _) gV,by omega,by have:=tl_le [];omega⟩
open Go.RowKit
def SrtRel (ks:List Sn) (R:Bool) (w:World) (q:Value) (wr:World):Prop :=
 ∃k:Nat,q=.int .i64 k∧k≤ks.length∧Below w.heap.size w wr∧Hid (Sn.shortL (ks.drop k)=R)
theorem Ar:∀{l:List Sn},Sn.tinyL l→∀x∈l,x.kids.length≤1000000∧Sn.tinyL x.kids:=fun h x hx=>by
 have:=rK h x hx
 obtain⟨_,_,_,_,_,_,_,l⟩:=x;exact⟨this.2.2.2.2.1,this.2.2.2.2.2⟩
theorem wf_kids {x:Sn} (h:x.wf=true):Sn.wfL x.kids=true:=by
 obtain⟨k,t,n,hh,u,f,o,ks⟩:=x;rw [Sn.wf,Jy] at h;cases hh with
 | true =>
  have h2:=h.2;rw [Bool.not_true,Bool.false_or,Jy] at h2;exact h2.2
 | false=>exact Af h.1
theorem wf_turn {k:Int} {t:Str} {n:Int} {h:Bool} {f:Tf} {o:List Str} {ks:List Sn} (hw:(Sn.mk k t n h true f o ks).wf=true):oZ f=true:=by
 rw [Sn.wf,Jy] at hw;have h:=hw.1;rw [wN] at h;simp only [xJ] at h;revert h
 (repeat' split)<;>intro h<;>simp_all
theorem py (S:Nat→Prop):∀(N:Nat) (ks:List Sn),Sn.partsL ks<N→Sn.tinyL ks→ks.length≤1000000→Sn.wfL ks=true→∀(a:Option Addr) (c:Nat) (w:World),SnSl w S a ks.length ks→Tab w →
  Calls Tryz.prog 12 #[.slice a ks.length c] w fun e w'=>e=.returned (.bool (Sn.shortL ks))∧Below w.heap.size w w'
 | 0,ks,h,_,_,_,_,_,_,_,_=>by omega
 | N+1,ks,h,hti,hl6,hwf,a,c,w,hx,ht=>by
  have ih:=fun(y:Sn) (hy:y∈ks)=>py S N y.kids (by have:=Sn.parts_mem hy;obtain⟨_,_,_,_,_,_,_,l⟩:=y;simp only [Sn.parts] at this;simp only [Sn.kids];omega) (Ar hti y hy).2 (Ar hti y hy).1 (wf_kids (qL hwf y hy))
  have IH:=ab ih;have HX:=ab hx;have HT:=ab ht;have HTI:=ab (fun y hy=>rK hti y hy);have HWF:=ab (fun y hy=>qL hwf y hy);obtain⟨R,hR⟩:∃R,Sn.shortL ks=R:=⟨_,rfl⟩;have HR0:Hid (Sn.shortL (ks.drop 0)=R):=ab (by simpa using hR);rw [hR];clear hR hx ih ht hti hwf;go_enter Tryz.func12,Tryz.ntmps12
  go_wp2
  go_loopw [3] (fun q wr=>SrtRel ks R w q wr) (fun q _=>ks.length-(intOf q).toNat)
  case atStart=>exact⟨0,rfl,by omega,Below.refl _ _,HR0⟩
  case round =>
   obtain⟨i,rfl,hi,hb,HF⟩:=hrel;clear HR0;have hB:=hb.size;cases hd:ks.drop i with
   | nil =>
    have h2:ks.length≤i:=it;have HE:Hid (true=R):=ab iE;clear hd HF;go_wp2
    go_ret
    exact⟨lM HE.out,hb⟩
   | cons y r =>
    obtain⟨h2,h3,hr⟩:=lC hd;have hyp:=JH h3;have hyt:=HTI.out y hyp;have hyw:=HWF.out y hyp;obtain⟨yk,yt,yn,yh,yu,yf,yo,ys⟩:=y;have hF2:((!yu||decide (yf.rx.tell.length≤256))&&Sn.shortL ys&&Sn.shortL r)=R:=by rw [←HF.out,hd];rfl
    obtain⟨b,o,cc,rfl,hS,hbB,hyv,hcc⟩:=(HX.out.later hb).at_ h3;obtain⟨fc,oa,oc,ka,kc,hA⟩:=hyv.at_;have hc4:wr.cell? ⟨b,o+i*18+4,none⟩=some (.bool yu):=hcc 4 _ hA.c4;have HC17:Hid (wr.cell? ⟨b,o+i*18+17,none⟩=some (.slice ka ys.length kc)):=ab (hcc 17 _ hA.c17);have HA:=ab hA;have Hr:=ab hr;cases yu with
    | false =>
     have HF2:=ab hF2;clear hd HF hr h3 hyv hcc hA hyt hyw hF2;have hbr:=Below.refl wr.heap.size wr;have HK:=ab (IH.out _ hyp ka kc wr HA.out.kv (HT.out.keep hb));have k17:=HC17.out;cases hks:Sn.shortL ys with
     | false =>
      have HE:Hid (false=R):=ab (by rw [←HF2.out,hks];simp);have hk9:Sn.shortL (Sn.mk yk yt yn yh false yf yo ys).kids=false:=hks;rw [hk9] at HK;clear hks hk9;go_wp2_with (go_at_call 12;refine HK.out.mono ?_)
      first|rintro e w2 rfl hb2|rintro e w2 ⟨rfl,hb2⟩
      go_wp2
      go_ret
      exact⟨lM HE.out,bel2 hb hb2⟩
     | true =>
      have HE:Hid (Sn.shortL r=R):=ab (by rw [←HF2.out,hks];simp);have hk9:Sn.shortL (Sn.mk yk yt yn yh false yf yo ys).kids=true:=hks;rw [hk9] at HK;clear hks hk9;go_wp2_with (go_at_call 12;refine HK.out.mono ?_)
      first|rintro e w2 rfl hb2|rintro e w2 ⟨rfl,hb2⟩
      go_wp2
      go_roundw
      case rel=>exact⟨i+1,by go_num,by omega,(bel2 hb hb2),ab (by rw [Hr.out];exact HE.out)⟩
      case measure=>simp [intOf];omega
    | true =>
     have hmf:=wf_turn hyw;obtain⟨rk,rch,rng,rrs,rlo,rhi,rlz,rks,ra,rcp,rka,rkc,fa,fcp,hc⟩:=hA.fv.open_;obtain⟨X,fs,fd,al⟩:=yf;obtain⟨⟨⟨x1,x2,x3⟩,t2,t3,t4,t5⟩,_⟩:=hyt;have hm2:(mayB X&&uN fs)=true:=hmf;rw [Jy] at hm2;have hx1:X=.mk rk rch rng rrs rlo rhi rlz rks:=hc.rx;have hxv:=hc.rv;have hfce:=hc.eq;have HRX:=ab (s9 S X _ wr x2 x1 (hx1▸hxv) (HT.out.keep hb) hm2.1 (by have h9:X.tell.length≤1000000:=t4;omega));have hrg:wr.rangeAt b (o+i*18+5) [.int .i64 rk,.string ⟨rch.toArray⟩,.bool rng,.slice ra rrs.length rcp,.int .i64 rlo,.int .i64 rhi,.bool rlz,.slice rka rks.length rkc]:=fun j v hj=>by
      have h9:=hA.cf j v (by rw [hfce];exact(JD (by have:=(Jx.1 hj).1;exact this)).trans hj);have:=hcc (5+j) v h9
      rw [J4,J4];exact this
     obtain⟨T,hT⟩:∃T,X.tell=T:=⟨_,rfl⟩;have hTl:T.length≤1000000:=by rw [←hT];exact t4
     have hF3:(decide (T.length≤256)&&Sn.shortL ys&&Sn.shortL r)=R:=by rw [←hF2,←hT];rfl
     rw [hT] at HRX;have HF3:=ab hF3;clear hd HF hr h3 hyv hcc hA hyw hF2 hF3 hmf hc hm2 hx1 hxv hfce x1 x2 x3 t2 t3 t4 t5 hT;by_cases h256:T.length≤256
     ·have dg:decide ((256:Int)<(T.length:Int))=false:=JT gN
      have HF4:Hid ((Sn.shortL ys&&Sn.shortL r)=R):=ab (by rw [←HF3.out,JR h256];rfl);clear h256;go_wp2_with (first
       | (refine kV rfl 38 (.tmp 22) rfl b (o+i*18+5) rfl [.int .i64 rk,.string ⟨rch.toArray⟩,.bool rng,.slice ra rrs.length rcp,.int .i64 rlo,.int .i64 rhi,.bool rlz,.slice rka rks.length rkc] _ hrg mb rfl iB ?_)
       | (go_at_call 23;refine HRX.out.mono ?_))
      first|rintro e w1 rfl hb1|rintro e w1 ⟨rfl,hb1⟩
      have HK:=ab (IH.out _ hyp ka kc w1 (HA.out.kv.later hb1) (HT.out.keep (bel2 hb hb1)));have k17:w1.cell? ⟨b,o+i*18+17,none⟩=some (.slice ka ys.length kc):=lP hb1 _ _ HC17.out;have hbw1:=bel2 hb hb1;cases hks:Sn.shortL ys with
      | false =>
       have HE:Hid (false=R):=ab (by rw [←HF4.out,hks];rfl);have hk9:Sn.shortL (Sn.mk yk yt yn yh true ⟨X,fs,fd,al⟩ yo ys).kids=false:=hks;rw [hk9] at HK;clear hks hk9;go_wp2_with (go_at_call 12;refine HK.out.mono ?_)
       first|rintro e w2 rfl hb2|rintro e w2 ⟨rfl,hb2⟩
       go_wp2
       go_ret
       exact⟨lM HE.out,bel2 hbw1 hb2⟩
      | true =>
       have HE:Hid (Sn.shortL r=R):=ab (by rw [←HF4.out,hks];rfl);have hk9:Sn.shortL (Sn.mk yk yt yn yh true ⟨X,fs,fd,al⟩ yo ys).kids=true:=hks;rw [hk9] at HK;clear hks hk9;go_wp2_with (go_at_call 12;refine HK.out.mono ?_)
       first|rintro e w2 rfl hb2|rintro e w2 ⟨rfl,hb2⟩
       go_wp2
       go_roundw
       case rel=>exact⟨i+1,by go_num,by omega,(bel2 hbw1 hb2),ab (by rw [Hr.out];exact HE.out)⟩
       case measure=>simp [intOf];omega
     ·have dg:decide ((256:Int)<(T.length:Int))=true:=JR gN
      have HE:Hid (false=R):=ab (by rw [←HF3.out,JT h256];rfl);clear h256;go_wp2_with (first
       | (refine kV rfl 38 (.tmp 22) rfl b (o+i*18+5) rfl [.int .i64 rk,.string ⟨rch.toArray⟩,.bool rng,.slice ra rrs.length rcp,.int .i64 rlo,.int .i64 rhi,.bool rlz,.slice rka rks.length rkc] _ hrg mb rfl iB ?_)
       | (go_at_call 23;refine HRX.out.mono ?_))
      first|rintro e w1 rfl hb1|rintro e w1 ⟨rfl,hb1⟩
      go_wp2
      go_ret
      exact⟨lM HE.out,bel2 hb hb1⟩
end Go.Proofs.YtdcnncgpomcaaaaGreatDoor
