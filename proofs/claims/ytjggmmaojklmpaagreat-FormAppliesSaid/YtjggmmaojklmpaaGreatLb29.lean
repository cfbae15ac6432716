/- Arguments opened: a slice of whatever elements as cells; lists of strings. -/
import Derived.Test.YtjggmmaojklmpaaGreatLb28
import Derived.Deep.Slices
import Derived.Test.YtjggmmaojklmpaaGreatRows
import Derived.ProofKit
import Derived.OpenShut
import Derived.ShutString
import Derived.Lib.ItoaMem
set_option maxRecDepth 100000
set_option maxHeartbeats 4000000
namespace Go.Proofs.YtjggmmaojklmpaaGreat
open Go.ChangeShapes Go.WideShapes Go.RowKit
section
variable {H:Type} {enc:TypeId × Value→H} {P:Program} {w:World} {spare:Nat→Bool} {held:Bool}
theorem ri {C:Nat}:∀{css:List (List Value)},(∀c∈css,c.length=C)→∀{j:Nat} {u:Value},css.flatten[j]?=some u→∃i k c,css[i]?=some c∧k<C∧j=i*C+k∧c[k]?=some u
 | [],_,j,u,h=>by simp at h
 | c::css,hC,j,u,h=>by
  have hc:=hC c (CB ..);rw [List.flatten_cons] at h;by_cases hj:j<c.length
  ·rw [CA hj] at h
   exact⟨0,j,c,rfl,by omega,by omega,h⟩
  ·rw [CD gu] at h
   obtain⟨i,k,c',h1,h2,h3,h4⟩:=ri (fun x hx=>hC x (CC _ hx)) h;exact⟨i+1,k,c',by simpa using h1,h2,by rw [Nat.succ_mul];omega,h4⟩
theorem rY {C:Nat}:∀{css:List (List Value)},(∀c∈css,c.length=C)→css.flatten.length=css.length*C
 | [],_=>by simp
 | c::css,hC=>by
  rw [List.flatten_cons,Cy,rY (fun x hx=>hC x (CC _ hx)),hC c (CB ..),Cr,Nat.succ_mul];omega
theorem se {t e:TypeId} {C fuel:Nat} {cs:List Value} {x:DataW H × List MemPlace} (ht:P.underlying t=some (.slice e)) (hC:P.cellsOf e=C) (hC0:0<C)
  (h:DataW.trod enc P w 0 spare held fuel t cs=some x) (Q:List Value→Prop)
  (hQ:∀n c y,n<fuel→c.length=C→DataW.trod enc P w 0 spare held n e c=some y→Q c) :
  ∃(a:Option Addr) (len cap:Nat) (css:List (List Value)),cs=[.slice a len cap]∧len≤maxLen∧css.length=len∧(∀c∈css,Q c∧c.length=C)∧Sl w w.heap.size a C len css.flatten:=by
 rcases DataW.trod_slice ht h with⟨rfl,_⟩|⟨a,len,cap,elems,rest,n,hf,rfl,_,_,hl,hm,hlen,hel,_,_⟩
 ·exact⟨none,0,0,[],rfl,by simp [maxLen],rfl,by simp,Sl.none_ _ _ _ _⟩
 ·have each:∀i,i<len→∃c,c.length=C∧Q c∧∀j,j<C→w.cell? ((a.add (i*C)).add j)=c[j]?:=by
   intro i hi;have h1:=hel i hi;have hlt:i<elems.length:=gu;rw [Cn hlt,Option.bind_eq_some_iff] at h1;obtain⟨c,hc,hy⟩:=h1;obtain⟨_,h2,h3⟩:=World.cells?_some hc;rw [hC] at h2 h3;exact⟨c,h2,hQ n c _ gu h2 hy,h3⟩
  have all:∃css:List (List Value),css.length=len∧∀i c,css[i]?=some c→c.length=C∧Q c∧∀j,j<C→w.cell? ((a.add (i*C)).add j)=c[j]?:=by
   have:∀m,m≤len→∃css:List (List Value),css.length=m∧∀i c,css[i]?=some c→c.length=C∧Q c∧∀j,j<C→w.cell? ((a.add (i*C)).add j)=c[j]?:=by
    intro m;induction m with
    | zero=>intro _;exact⟨[],rfl,by simp⟩
    | succ m ih =>
     intro hm;obtain⟨css,h1,h2⟩:=ih gu;obtain⟨c,hc⟩:=each m gu;refine⟨css++[c],by simp [h1],fun i d hd=>?_⟩;by_cases hi:i<css.length
     ·rw [CA hi] at hd;exact h2 i d hd
     ·rw [CD gu] at hd
      have hi0:i-css.length=0:=by
       rcases Nat.eq_zero_or_pos (i-css.length) with h0|h0
       ·exact h0
       ·rw [List.getElem?_eq_none gH] at hd;cases hd
      rw [hi0] at hd;simp at hd;subst hd
      rw [show i=m by omega];exact hc
   exact this len (Cp _)
  obtain⟨css,h1,h2⟩:=all;have h3:∀c∈css,Q c∧c.length=C:=fun c hc=>by
   obtain⟨i,hi⟩:=List.getElem?_of_mem hc;exact⟨(h2 i c hi).2.1,(h2 i c hi).1⟩
  refine⟨some a,len,cap,css,rfl,by omega,h1,h3,by rw [rY (fun c hc=>(h3 c hc).2),h1],fun hn=>?_⟩;have h0:w.cell? a≠none:=by
   obtain⟨c,hc⟩:∃c,css[0]?=some c:=⟨_,Cn gu⟩;obtain⟨hc1,_,hc2⟩:=h2 0 c hc;have:=hc2 0 hC0
   rw [show (a.add (0*C)).add 0=a by simp [Addr.add],Cn gu] at this;rw [this];simp
  obtain⟨b,off,spot⟩:=a;have hspot:spot=none:=by
   cases spot with
   | none=>rfl
   | some s=>exfalso;apply h0;unfold World.cell?;split<;>simp
  subst hspot;have hb:b<w.heap.size:=by
   rcases Nat.lt_or_ge b w.heap.size with h4|h4
   ·exact h4
   ·exfalso;apply h0;simp [World.cell?,Array.getElem?_eq_none h4]
  refine⟨b,off,rfl,hb,fun j u hu=>?_⟩;obtain⟨i,k,c,g1,g2,rfl,g4⟩:=ri (fun c hc=>(h3 c hc).2) hu;have:=(h2 i c g1).2.2 k g2
  rw [g4] at this;rw [←this];congr 1;unfold Addr.add;(repeat' split)<;>simp_all<;>omega
theorem sO {X:Type} (f:X→List Value) (K:X→Prop):∀{css:List (List Value)},(∀c∈css,∃x,c=f x∧K x)→∃xs:List X,css=xs.map f∧∀x∈xs,K x
 | [],_=>⟨[],rfl,by simp⟩
 | c::css,h=>by
  obtain⟨x,rfl,hx⟩:=h c (CB ..);obtain⟨xs,rfl,hxs⟩:=sO f K (fun d hd=>h d (CC _ hd));exact⟨x::xs,rfl,fun y hy=>by
   rcases Cz.1 hy with rfl|hy
   ·exact hx
   ·exact hxs y hy⟩
theorem vJ {X:Type} (f:X→List Value) (K:X→Prop) {t e:TypeId} {C fuel:Nat} {cs:List Value} {x:DataW H × List MemPlace} (ht:P.underlying t=some (.slice e)) (hC:P.cellsOf e=C) (hC0:0<C)
  (h:DataW.trod enc P w 0 spare held fuel t cs=some x)
  (hQ:∀n c y,n<fuel→c.length=C→DataW.trod enc P w 0 spare held n e c=some y→∃x,c=f x∧K x) :
  ∃(a:Option Addr) (cap:Nat) (xs:List X),cs=[.slice a xs.length cap]∧xs.length≤maxLen∧(∀x∈xs,K x)∧Sl w w.heap.size a C xs.length (xs.flatMap f):=by
 obtain⟨a,len,cap,css,h1,h2,h3,h4,h5⟩:=se ht hC hC0 h (fun c=>∃x,c=f x∧K x) hQ;obtain⟨xs,rfl,hx⟩:=sO f K (fun c hc=>(h4 c hc).1);rw [CX] at h3;subst h3;exact⟨a,cap,xs,h1,h2,hx,by rw [List.flatMap_def];exact h5⟩
end
section
variable {H:Type} {enc:TypeId × Value→H} {w:World} {base:Nat} {spare:Nat→Bool} {held:Bool}
end
open Go.ChangeShapes Go.WideShapes Go.RowKit
theorem BV:Tryz.prog.underlying 25=some (.struct (Tryz.prog.fieldsOf 25)):=by kernel_rfl
theorem zq:Tryz.prog.underlying 72=some (.struct (Tryz.prog.fieldsOf 72)):=by kernel_rfl
theorem rx_fs : Tryz.prog.fieldsOf 25 = #[{ name := "Kind", type := 3, offset := 0, embedded := false, tag := "", pkgPath := "", byteOffset := 0 }, { name := "Char", type := 9, offset := 1, embedded := false, tag := "", pkgPath := "", byteOffset := 8 }, { name := "Not", type := 4, offset := 2, embedded := false, tag := "", pkgPath := "", byteOffset := 24 }, { name := "Rows", type := 22, offset := 3, embedded := false, tag := "", pkgPath := "", byteOffset := 32 }, { name := "Min", type := 3, offset := 4, embedded := false, tag := "", pkgPath := "", byteOffset := 56 }, { name := "Max", type := 3, offset := 5, embedded := false, tag := "", pkgPath := "", byteOffset := 64 }, { name := "Lazy", type := 4, offset := 6, embedded := false, tag := "", pkgPath := "", byteOffset := 72 }, { name := "Kids", type := 23, offset := 7, embedded := false, tag := "", pkgPath := "", byteOffset := 80 }] := by kernel_rfl
theorem row_fs : Tryz.prog.fieldsOf 72 = #[{ name := "From", type := 9, offset := 0, embedded := false, tag := "", pkgPath := "", byteOffset := 0 }, { name := "To", type := 9, offset := 1, embedded := false, tag := "", pkgPath := "", byteOffset := 16 }] := by kernel_rfl
theorem ur:Tryz.prog.cellsOf 3=1:=by kernel_rfl
theorem oq:Tryz.prog.cellsOf 9=1:=by kernel_rfl
theorem s7:Tryz.prog.cellsOf 4=1:=by kernel_rfl
theorem zM:Tryz.prog.cellsOf 22=1:=by kernel_rfl
theorem BW:Tryz.prog.cellsOf 23=1:=by kernel_rfl
theorem BZ:Tryz.prog.cellsOf 72=2:=by kernel_rfl
theorem xQ:Tryz.prog.cellsOf 25=8:=by kernel_rfl
theorem vy {w:World}:∀{css:List (List Value)},(∀c∈css,∃x:Rx,RxV w Any c x∧x.mem)→∃xs:List Rx,RxVs w Any css xs∧Rx.memL xs
 | [],_=>⟨[],.nil,by simp [Rx.memL]⟩
 | c::css,h=>by
  obtain⟨x,hx,hm⟩:=h c (CB ..);obtain⟨xs,hxs,hms⟩:=vy (fun d hd=>h d (CC _ hd));exact⟨x::xs,.cons hx hxs,by simp only [Rx.memL];exact⟨hm,hms⟩⟩
theorem Sl.slAny {w:World} {a:Option Addr} {sz n:Nat} {cs:List Value} (h:Sl w w.heap.size a sz n cs):SlS w Any a sz n cs :=
 (h.slS (Cp _)).mono fun _ _ _=>trivial
section
variable {H:Type} {enc:TypeId × Value→H} {w:World} {spare:Nat→Bool} {held:Bool}
theorem open_row {n:Nat} {c:List Value} {y:DataW H × List MemPlace} (hc:c.length=2) (hy:DataW.trod enc Tryz.prog w 0 spare held n 72 c=some y) :
  ∃r:Str × Str,c=[.string ⟨(r.1).toArray⟩,.string ⟨(r.2).toArray⟩]∧r.1.length≤maxLen∧r.2.length≤maxLen:=by
 obtain⟨ys,m,_,_,_,hl,hfs⟩:=DataW.trod_struct zq hy;match c,hc with
 | [c0,c1],_ =>
  rw [row_fs] at hfs hl;have hys:ys.length=2:=hl;have f0 := hfs 0 ({ name := "From", type := 9, offset := 0, embedded := false, tag := "", pkgPath := "", byteOffset := 0 }) rfl
  have f1 := hfs 1 ({ name := "To", type := 9, offset := 1, embedded := false, tag := "", pkgPath := "", byteOffset := 16 }) rfl
  simp only [oq] at f0 f1;rw [Cn gu] at f0 f1;obtain⟨s0,e0,_,h0⟩:=DataW.trod_string Tryz.underlying9 f0;obtain⟨s1,e1,_,h1⟩:=DataW.trod_string Tryz.underlying9 f1;simp only [List.drop,List.take] at e0 e1;injection e0 with e0;injection e1 with e1
  subst e0 e1;exact⟨⟨s0.data.toList,s1.data.toList⟩,by simp,by simpa using h0,by simpa using h1⟩
theorem rx_cells:∀(fuel:Nat) (c:List Value) (y:DataW H × List MemPlace),c.length=8→DataW.trod enc Tryz.prog w 0 spare held fuel 25 c=some y→∃x:Rx,RxV w Any c x∧x.mem:=by
 intro fuel;induction fuel using Nat.strongRecOn with
 | ind fuel ih =>
  intro c y hc hy;obtain⟨ys,m,hm,_,_,hl,hfs⟩:=DataW.trod_struct BV hy;match c,hc with
  | [c0,c1,c2,c3,c4,c5,c6,c7],_ =>
   rw [rx_fs] at hfs hl;have hys:ys.length=8:=hl;have f0 := hfs 0 ({ name := "Kind", type := 3, offset := 0, embedded := false, tag := "", pkgPath := "", byteOffset := 0 }) rfl
   have f1 := hfs 1 ({ name := "Char", type := 9, offset := 1, embedded := false, tag := "", pkgPath := "", byteOffset := 8 }) rfl
   have f2 := hfs 2 ({ name := "Not", type := 4, offset := 2, embedded := false, tag := "", pkgPath := "", byteOffset := 24 }) rfl
   have f3 := hfs 3 ({ name := "Rows", type := 22, offset := 3, embedded := false, tag := "", pkgPath := "", byteOffset := 32 }) rfl
   have f4 := hfs 4 ({ name := "Min", type := 3, offset := 4, embedded := false, tag := "", pkgPath := "", byteOffset := 56 }) rfl
   have f5 := hfs 5 ({ name := "Max", type := 3, offset := 5, embedded := false, tag := "", pkgPath := "", byteOffset := 64 }) rfl
   have f6 := hfs 6 ({ name := "Lazy", type := 4, offset := 6, embedded := false, tag := "", pkgPath := "", byteOffset := 72 }) rfl
   have f7 := hfs 7 ({ name := "Kids", type := 23, offset := 7, embedded := false, tag := "", pkgPath := "", byteOffset := 80 }) rfl
   simp only [oq,ur,s7,zM,BW] at f0 f1 f2 f3 f4 f5 f6 f7;rw [Cn gu] at f0 f1 f2 f3 f4 f5 f6 f7;obtain⟨n0,e0,_⟩:=DataW.trod_int Tryz.underlying3 f0;obtain⟨s1,e1,_,h1⟩:=DataW.trod_string Tryz.underlying9 f1;obtain⟨b2,e2,_⟩:=DataW.trod_bool Tryz.underlying4 f2;obtain⟨a3,cap3,rs,e3,h3,hr3,sl3⟩:=vJ (fun r:Str × Str=>[.string ⟨(r.1).toArray⟩,.string ⟨(r.2).toArray⟩]) (fun r=>r.1.length≤maxLen∧r.2.length≤maxLen) Tryz.underlying22 (C:=2) BZ gD f3 (fun n c y _ hc hy=>open_row hc hy);obtain⟨n4,e4,_⟩:=DataW.trod_int Tryz.underlying3 f4;obtain⟨n5,e5,_⟩:=DataW.trod_int Tryz.underlying3 f5;obtain⟨b6,e6,_⟩:=DataW.trod_bool Tryz.underlying4 f6;obtain⟨a7,len7,cap7,css,e7,h7,hcl,hq,sl7⟩:=se Tryz.underlying23 (C:=8) xQ gD f7 (fun c=>∃x:Rx,RxV w Any c x∧x.mem) (fun n c y hn hc hy=>ih n gu c y hc hy);obtain⟨ks,hks,hmL⟩:=vy (fun c hc=>(hq c hc).1);have hlk:len7=ks.length:=by rw [←hks.length,hcl]
   subst hlk;simp only [List.drop,List.take] at e0 e1 e2 e3 e4 e5 e6 e7;injection e0 with e0;injection e1 with e1;injection e2 with e2;injection e3 with e3;injection e4 with e4;injection e5 with e5;injection e6 with e6;injection e7 with e7
   subst e0 e1 e2 e3 e4 e5 e6 e7;refine⟨.mk n0 s1.data.toList b2 rs n4 n5 b6 ks,?_,?_⟩
   ·have hv:=RxV.mk (k:=n0) (c:=s1.data.toList) (ng:=b2) (rs:=rs) (lo:=n4) (hi:=n5) (lz:=b6) (ks:=ks) (rc:=cap3) (kc:=cap7) (ra:=a3) (ka:=a7) sl3.slAny sl7.slAny hks
    unfold rxc at hv;rw [←ba_of] at hv;exact hv
   ·simp only [Rx.mem,Rx.mem1]
    exact⟨⟨by simpa using h1,h3,hr3,h7⟩,hmL⟩
end
open Go.ChangeShapes Go.WideShapes Go.RowKit
def Tf.mem (f:Tf):Prop:=f.rx.mem∧f.fs.length≤maxLen∧∀g∈f.fs,g.thn.length≤maxLen∧g.els.length≤maxLen
namespace Sn
mutual
def mem:Sn→Prop
 | mk _ t _ _ _ f o ks=>t.length≤maxLen∧f.mem∧o.length≤maxLen∧(∀s∈o,s.length≤maxLen)∧ks.length≤maxLen∧memL ks
def memL:List Sn→Prop
 | []=>True
 | x::r=>mem x∧memL r
end
end Sn
theorem qJ:Tryz.prog.underlying 28=some (.struct (Tryz.prog.fieldsOf 28)):=by kernel_rfl
theorem form_fs : Tryz.prog.fieldsOf 28 = #[{ name := "Rx", type := 25, offset := 0, embedded := false, tag := "", pkgPath := "", byteOffset := 0 }, { name := "Fmts", type := 26, offset := 8, embedded := false, tag := "", pkgPath := "", byteOffset := 104 }, { name := "Fold", type := 4, offset := 9, embedded := false, tag := "", pkgPath := "", byteOffset := 128 }, { name := "All", type := 4, offset := 10, embedded := false, tag := "", pkgPath := "", byteOffset := 129 }] := by kernel_rfl
theorem yY:Tryz.prog.cellsOf 28=11:=by kernel_rfl
theorem zS:Tryz.prog.cellsOf 26=1:=by kernel_rfl
theorem AQ:Tryz.prog.cellsOf 55=5:=by kernel_rfl
section
variable {H:Type} {enc:TypeId × Value→H} {w:World} {spare:Nat→Bool} {held:Bool}
theorem Aj {n:Nat} {c:List Value} {y:DataW H × List MemPlace} (hc:c.length=5) (hy:DataW.trod enc Tryz.prog w 0 spare held n 55 c=some y):∃f:Fm,c=f.cells∧f.thn.length≤maxLen∧f.els.length≤maxLen:=by
 obtain⟨ys,m,_,_,_,hl,hfs⟩:=DataW.trod_struct Ag hy;match c,hc with
 | [c0,c1,c2,c3,c4],_ =>
  have hF : Tryz.prog.fieldsOf 55 = #[{ name := "Kind", type := 3, offset := 0, embedded := false, tag := "", pkgPath := "", byteOffset := 0 }, { name := "N", type := 3, offset := 1, embedded := false, tag := "", pkgPath := "", byteOffset := 8 }, { name := "Case", type := 3, offset := 2, embedded := false, tag := "", pkgPath := "", byteOffset := 16 }, { name := "Then", type := 9, offset := 3, embedded := false, tag := "", pkgPath := "", byteOffset := 24 }, { name := "Else", type := 9, offset := 4, embedded := false, tag := "", pkgPath := "", byteOffset := 40 }] := by kernel_rfl
  rw [hF] at hfs hl;have f0 := hfs 0 ({ name := "Kind", type := 3, offset := 0, embedded := false, tag := "", pkgPath := "", byteOffset := 0 }) rfl
  have f1 := hfs 1 ({ name := "N", type := 3, offset := 1, embedded := false, tag := "", pkgPath := "", byteOffset := 8 }) rfl
  have f2 := hfs 2 ({ name := "Case", type := 3, offset := 2, embedded := false, tag := "", pkgPath := "", byteOffset := 16 }) rfl
  have f3 := hfs 3 ({ name := "Then", type := 9, offset := 3, embedded := false, tag := "", pkgPath := "", byteOffset := 24 }) rfl
  have f4 := hfs 4 ({ name := "Else", type := 9, offset := 4, embedded := false, tag := "", pkgPath := "", byteOffset := 40 }) rfl
  simp only [ur,oq,List.drop,List.take] at f0 f1 f2 f3 f4;have hys:ys.length=5:=hl;rw [Cn gu] at f0 f1 f2 f3 f4;obtain⟨n0,e0,_⟩:=DataW.trod_int Tryz.underlying3 f0;obtain⟨n1,e1,_⟩:=DataW.trod_int Tryz.underlying3 f1;obtain⟨n2,e2,_⟩:=DataW.trod_int Tryz.underlying3 f2;obtain⟨s3,e3,_,h3⟩:=DataW.trod_string Tryz.underlying9 f3;obtain⟨s4,e4,_,h4⟩:=DataW.trod_string Tryz.underlying9 f4;injection e0 with e0;injection e1 with e1;injection e2 with e2;injection e3 with e3;injection e4 with e4
  subst e0 e1 e2 e3 e4;exact⟨⟨n0,n1,n2,s3.data.toList,s4.data.toList⟩,by simp [Fm.cells],by simpa using h3,by simpa using h4⟩
theorem vW {n:Nat} {c:List Value} {y:DataW H × List MemPlace} (hc:c.length=11) (hy:DataW.trod enc Tryz.prog w 0 spare held n 28 c=some y):∃f:Tf,TfV w Any c f∧f.mem:=by
 obtain⟨ys,m,_,_,_,hl,hfs⟩:=DataW.trod_struct qJ hy;match c,hc with
 | [c0,c1,c2,c3,c4,c5,c6,c7,c8,c9,c10],_ =>
  rw [form_fs] at hfs hl;have hys:ys.length=4:=hl;have f0 := hfs 0 ({ name := "Rx", type := 25, offset := 0, embedded := false, tag := "", pkgPath := "", byteOffset := 0 }) rfl
  have f1 := hfs 1 ({ name := "Fmts", type := 26, offset := 8, embedded := false, tag := "", pkgPath := "", byteOffset := 104 }) rfl
  have f2 := hfs 2 ({ name := "Fold", type := 4, offset := 9, embedded := false, tag := "", pkgPath := "", byteOffset := 128 }) rfl
  have f3 := hfs 3 ({ name := "All", type := 4, offset := 10, embedded := false, tag := "", pkgPath := "", byteOffset := 129 }) rfl
  simp only [xQ,zS,s7,List.drop,List.take] at f0 f1 f2 f3;rw [Cn gu] at f0 f1 f2 f3;obtain⟨x,hx,hm⟩:=rx_cells _ [c0,c1,c2,c3,c4,c5,c6,c7] _ rfl f0;obtain⟨a1,cap1,fs,e1,h1,hr1,sl1⟩:=vJ Fm.cells (fun f=>f.thn.length≤maxLen∧f.els.length≤maxLen) Tryz.underlying26 (C:=5) AQ gD f1 (fun n c y _ hc hy=>Aj hc hy);obtain⟨b2,e2,_⟩:=DataW.trod_bool Tryz.underlying4 f2;obtain⟨b3,e3,_⟩:=DataW.trod_bool Tryz.underlying4 f3;injection e1 with e1;injection e2 with e2;injection e3 with e3
  subst e1 e2 e3;exact⟨⟨x,fs,b2,b3⟩,⟨[c0,c1,c2,c3,c4,c5,c6,c7],a1,cap1,hx,sl1.slAny,rfl⟩,hm,h1,hr1⟩
end
open Go.RowKit
def yP (f:Tf) (n:Int):Int:=if f.rx.left n<0 then f.rx.left n else o6 f.fs (f.rx.left n)
theorem vU (S:Nat→Prop) (f:Tf) (hm:f.mem) (fc:List Value) (w:World) (n:Int) (hv:TfV w S fc f) (hn0:-1000≤n) (hn1:n≤1000) :
  Calls Tryz.prog 5 #[.agg fc.toArray,.int .i64 n] w fun e w'=>e=.returned (.int .i64 (yP f n))∧Below w.heap.size w w':=by
 obtain⟨rk,rch,rng,rrs,rlo,rhi,rlz,rks,ra,rcp,rka,rkc,fa,fcp,hc⟩:=hv.open_;obtain⟨X,fs,fd,al⟩:=f;obtain⟨m1,m2,m3⟩:=hm;have hx1:X=.mk rk rch rng rrs rlo rhi rlz rks:=hc.rx;have hfce:fc=[.int .i64 rk,.string ⟨rch.toArray⟩,.bool rng,.slice ra rrs.length rcp,.int .i64 rlo,.int .i64 rhi,.bool rlz,.slice rka rks.length rkc,.slice fa fs.length fcp,.bool fd,.bool al]:=hc.eq;obtain⟨W0,hW0⟩:∃W0,W0=w.alloc (.cells fc.toArray 28):=⟨_,rfl⟩;have hb0:Below w.heap.size w W0:=by rw [hW0];exact(Below.refl _ _).alloc (Cp _) _
 have HB1:Hid (W0.heap[w.heap.size]?=some (.cells fc.toArray 28 (0,0))):=ab iE;have hXV:RxV W0 S [.int .i64 rk,.string ⟨rch.toArray⟩,.bool rng,.slice ra rrs.length rcp,.int .i64 rlo,.int .i64 rhi,.bool rlz,.slice rka rks.length rkc] X:=hx1▸hc.rv.later hb0;have HFS:Hid (SlS W0 S fa 5 fs.length (lA fs)):=ab (hc.fv.keep (Kept.all hb0));have hlb:=wm _ X n (Cp _) hn0 hn1;have HRX:=ab (uW S _ X (Cp _) m1 _ W0 n hXV hn0 hn1);have HM3:=ab m3;have HM2:Hid (fs.length≤maxLen):=ab m2;have hF:yP ⟨X,fs,fd,al⟩ n=if X.left n<0 then X.left n else o6 fs (X.left n):=rfl
 subst hfce;have HW0:=ab hW0;rw [hF];clear hv hc hx1 hW0 m1 m2 m3 hXV hF;generalize X.left n=m at HRX hlb ⊢
 obtain⟨l0,l1⟩:=hlb;by_cases hneg:m<0
 ·rw [Cl hneg]
  have g1:decide (m<0)=true:=CO hneg;clear hneg;go_enter Tryz.func5,Tryz.ntmps5
  go_upto_region 1 with fail
  rw [←HW0.out];clear HW0;go_wp2_with (first
   | (refine kF rfl 25 (.tmp 5) rfl w.heap.size 0 rfl [.int .i64 rk,.string ⟨rch.toArray⟩,.bool rng,.slice ra rrs.length rcp,.int .i64 rlo,.int .i64 rhi,.bool rlz,.slice rka rks.length rkc] _ (kJ (ds:=[.slice fa fs.length fcp,.bool fd,.bool al]) HB1.out) nb rfl iU ?_)
   | (go_at_call 13;refine HRX.out.mono ?_))
  exact cU
 ·rw [Co hneg]
  have g1:decide (m<0)=false:=CP hneg;clear hneg;go_enter Tryz.func5,Tryz.ntmps5
  go_upto_region 1 with fail
  rw [←HW0.out];clear HW0;go_wp2_with (first
   | (refine kF rfl 25 (.tmp 5) rfl w.heap.size 0 rfl [.int .i64 rk,.string ⟨rch.toArray⟩,.bool rng,.slice ra rrs.length rcp,.int .i64 rlo,.int .i64 rhi,.bool rlz,.slice rka rks.length rkc] _ (kJ (ds:=[.slice fa fs.length fcp,.bool fd,.bool al]) HB1.out) nb rfl iU ?_)
   | (go_at_call 13;refine HRX.out.mono ?_))
  first|rintro e w1 rfl hb1|rintro e w1 ⟨rfl,hb1⟩
  have hx1:=(hb1.block _ (jO HB1.out)).trans HB1.out;have z8:=jT hx1 8 rfl;have HFL:=ab (uz fa fs.length fcp m fs w1 (HFS.out.keep (Kept.all hb1)).sl HM2.out gu HM3.out);clear hx1;go_wp2_with (go_at_call 14;refine HFL.out.mono ?_)
  first|rintro e w2 rfl hb2|rintro e w2 ⟨rfl,hb2⟩
  go_wp2
  go_ret
  exact⟨rfl,bel2 (bel2 hb0 hb1) hb2⟩
open Go.ChangeShapes Go.WideShapes Go.RowKit
section
variable {H:Type} {enc:TypeId × Value→H} {w:World} {spare:Nat→Bool} {held:Bool}
theorem A6 {r:Reach} {b0:Nat} {v:Value} {d:DataW H} {ps:List MemPlace} (hval:Value.okWide Tryz.prog w r b0 28 v) (h:DataW.Trod enc Tryz.prog w 0 spare held 28 v d ps) :
  ∃(c:List Value) (f:Tf),v=.agg c.toArray∧TfV w Any c f∧f.mem:=by
 obtain⟨fuel,hf⟩:=h;obtain⟨cs,rfl,hsz⟩:=okWide_struct qJ hval;rw [yY] at hsz;obtain⟨f,hx,hm⟩:=vW (show (Value.agg cs).cells.size=11 from hsz) hf;exact⟨cs.toList,f,by simp,hx,hm⟩
end
open Go.RowKit Go.WideShapes Go.ChangeShapes
theorem own:ownKnob Tryz.prog.godebug=none:=by kernel_rfl
section
variable {H:Type} {enc:TypeId × Value→H} {P:Program}
theorem te (hl:laidOutB P=true) {W W':World} (hb:Below W.heap.size W W'):∀{ts:List TypeId} {vs:List Value} {ds:List (DataW H)} {ps:List MemPlace},
  (∀t∈ts,P.readableRec t=true∧t<P.types.size)→DataW.TrodAll enc P W 0 (fun _=>true) true ts vs ds ps→(∀p∈ps,p.block<W.heap.size)→∀sp:Nat→Bool,(∀p∈ps,sp p.block=true) →
  DataW.TrodAll enc P W' 0 sp true ts vs ds ps
 | [],vs,ds,ps,_,h,_,sp,_=>by
  obtain⟨rfl,rfl,rfl⟩:=trodAll_nil h;exact trodAll_mk0
 | t::ts,vs,ds,ps,ht,h,hlt,sp,hsp=>by
  obtain⟨v,vs',d,ds',p,q,rfl,rfl,rfl,h1,h2⟩:=trodAll_cons h;obtain⟨r1,r2⟩:=ht t (CB ..);exact trodAll_cons_mk (WideElems.Trod_stays hl r1 r2 h1 (fun x hx=>hb.same (hlt x (List.mem_append_left _ hx))) (fun x hx=>hsp x (List.mem_append_left _ hx)))
   (te hl hb (fun t hm=>ht t (CC _ hm)) h2 (fun x hx=>hlt x (List.mem_append_right _ hx)) sp (fun x hx=>hsp x (List.mem_append_right _ hx)))
theorem tC {f:Func} {s:ChangeSpec} {apart fresh handsOn again:Bool} {W W':World} {args:Array Value} {v:Value} {ds gs:List (DataW H)} {before pa pv:List MemPlace}
  (hW:DataW.Whole enc P f.params.toList s.vars apart W args.toList ds gs before)
  (hres:∀(b:Nat) (sp:Nat→Bool) (hd:Bool),DataW.TrodAll enc P W' b sp hd f.resultTypes.toList (v.resultList f.resultTypes.size) (s.fn H (ds++gs)).results [])
  (hargs:∀sp:Nat→Bool,(∀p∈before,sp p.block=true)→DataW.TrodAll enc P W' 0 sp true f.params.toList args.toList (s.fn H (ds++gs)).args pa)
  (hvars:∀sp:Nat→Bool,(∀p∈before,sp p.block=true)→DataW.TrodVars enc P W' sp s.vars (s.fn H (ds++gs)).vars pv)
  (hps:before=pa++pv) (hb:Below W.heap.size W W')
  (hok:∀(j:Nat) (t:TypeId) (r:Value),f.resultTypes[j]?=some t→(v.resultList f.resultTypes.size)[j]?=some r→Value.okWide P W' .any 0 t r) :
  s.post enc P f apart fresh handsOn again W args v W':=by
 have hlt:∀p∈before,p.block<W.heap.size:=fun p hp=>hW.lt p hp
 have hold:∀p∈before,(fun b=>decide (b<W.heap.size)) p.block=true:=fun p hp=>by simpa using hlt p hp
 refine⟨ds,gs,before,[],pa,pv,hW,hres _ _ _,hargs _ hold,hvars _ hold,World.keptBut_mono (fun p hp=>⟨hp,?_⟩) (hb.frame (·∈before)),fun _=>?_⟩
 ·rw [hps,CI] at hp
  exact Or.inr hp
 ·obtain⟨_,_,_,_,_,hz,hn⟩:=hW
  refine⟨hok,_,_,([]++pa)++pv,⟨[]++pa,pv,trodAll_append (hargs _ (fun _ _=>rfl)) (hres _ _ _),hvars _ (fun _ _=>rfl),rfl,?_,?_⟩,?_⟩
  ·intro b off hp
   have hin:MemPlace.cell b off∈before:=by rw [hps];simpa using hp
   rw [hb.frozen (hlt _ hin)];exact hz b off hin
  ·intro ha
   have:=hn ha
   rw [hps] at this;simpa using this
  ·intro p hp _
   rw [hps];simpa using hp
end
open Go.RowKit
theorem qw (S:Nat→Prop) (x:Rx) (cc:List Value) (w:World) (hm:x.parts≤1000000) (hsm:x.small) (hv:RxV w S cc x) :
  Calls Tryz.prog 36 #[.agg cc.toArray] w fun e w'=>e=.returned (.bool (mayB x))∧Below w.heap.size w w':=by
 have HR:Hid (mayB x=(decide ((x.parts:Int)≤512)&&decide ((x.deep:Int)≤16)&&x.wf)):=ab (by simp only [mayB,okB];cases x.wf<;>simp);have hdp:=Rx.deep_parts x;obtain⟨p,hp⟩:∃p,x.parts=p:=⟨_,rfl⟩;obtain⟨d,hd⟩:∃d,x.deep=d:=⟨_,rfl⟩;obtain⟨f,hf⟩:∃f,x.wf=f:=⟨_,rfl⟩;rw [hp,hd,hf] at HR;rw [hp] at hm hdp;rw [hd] at hdp;have HP:=ab hp;have HD:=ab hd;have HF:=ab hf;have HSM:=ab hsm;clear hp hd hf hsm;obtain⟨k,c,ng,rs,lo,hi,lz,ks⟩:=x;obtain⟨ra,rc,ka,kc,rfl,hrs,hx⟩:=hv.open_;obtain⟨w0,hw0⟩:∃w0,w0=w.alloc (.cells #[.int .i64 k,.string ⟨c.toArray⟩,.bool ng,.slice ra rs.length rc,.int .i64 lo,.int .i64 hi,.bool lz,.slice ka ks.length kc] 25):=⟨_,rfl⟩;have hb0:Below w.heap.size w w0:=by rw [hw0];exact(Below.refl _ _).alloc (Cp _) _
 have hbx0:w0.heap[w.heap.size]?=some (.cells #[.int .i64 k,.string ⟨c.toArray⟩,.bool ng,.slice ra rs.length rc,.int .i64 lo,.int .i64 hi,.bool lz,.slice ka ks.length kc] 25 (0,0)):=by rw [hw0];exact heap_alloc_new w _
 have HV:=ab (hv.later hb0);have HBX:=ab hbx0;have HW0:=ab hw0;rw [hw0] at HV;clear hv hrs hx hbx0 hw0;unfold rxc at HV ⊢;by_cases g1:(p:Int)≤512
 ·have g1':decide ((p:Int)≤512)=true:=CO g1
  by_cases g2:(d:Int)≤16
  ·have g2':decide ((d:Int)≤16)=true:=CO g2
   have HE:Hid (mayB (.mk k c ng rs lo hi lz ks)=f):=ab (by rw [HR.out,g1',g2'];rfl);rw [HE.out];go_enter Tryz.func36,Tryz.ntmps36
   go_wp2_with (go_at_call 66;refine(oQ S _ _ (Cp _) jd _ _ HV.out).mono ?_)
   first|rintro e w1 rfl hb1|rintro e w1 ⟨rfl,hb1⟩
   rw [HP.out];rw [←HW0.out] at hb1;replace hb1:Below w0.heap.size w0 w1:=hb1.mono (by rw [HW0.out];simp);have hbb1:=bel2 hb0 hb1;have hbx1:=(hb1.block _ (jO HBX.out)).trans HBX.out;have HV1:=ab ((show RxV w0 S _ _ by rw [HW0.out];exact HV.out).later hb1);have HBX1:=ab hbx1;obtain⟨e0,e1,e2,e3,e4,e5,e6,e7,e8⟩:=jR hbx1;clear hb1 hbx1;go_wp2_with (go_at_call 67;refine(rP S _ _ (Cp _) jd _ _ HV1.out).mono ?_)
   first|rintro e w2 rfl hb2|rintro e w2 ⟨rfl,hb2⟩
   rw [HD.out];have hbb2:=bel2 hbb1 hb2;have hbx2:=(hb2.block _ (jO HBX1.out)).trans HBX1.out;have HV2:=ab (HV1.out.later hb2);clear e0 e1 e2 e3 e4 e5 e6 e7 e8;obtain⟨e0,e1,e2,e3,e4,e5,e6,e7,e8⟩:=jR hbx2;clear hb2 hbx2;go_wp2_with (go_at_call 68;refine(ym S _ _ (Cp _) jd HSM.out _ _ HV2.out).mono ?_;rintro e w3 ⟨rfl,hb3⟩;rw [HF.out])
   go_ret
   exact⟨rfl,bel2 hbb2 hb3⟩
  ·have g2':decide ((d:Int)≤16)=false:=CP g2
   have HE:Hid (mayB (.mk k c ng rs lo hi lz ks)=false):=ab (by rw [HR.out,g1',g2'];rfl);rw [HE.out];go_enter Tryz.func36,Tryz.ntmps36
   go_wp2_with (go_at_call 66;refine(oQ S _ _ (Cp _) jd _ _ HV.out).mono ?_)
   first|rintro e w1 rfl hb1|rintro e w1 ⟨rfl,hb1⟩
   rw [HP.out];rw [←HW0.out] at hb1;replace hb1:Below w0.heap.size w0 w1:=hb1.mono (by rw [HW0.out];simp);have hbb1:=bel2 hb0 hb1;have hbx1:=(hb1.block _ (jO HBX.out)).trans HBX.out;have HV1:=ab ((show RxV w0 S _ _ by rw [HW0.out];exact HV.out).later hb1);have HBX1:=ab hbx1;obtain⟨e0,e1,e2,e3,e4,e5,e6,e7,e8⟩:=jR hbx1;clear hb1 hbx1;go_wp2_with (go_at_call 67;refine(rP S _ _ (Cp _) jd _ _ HV1.out).mono ?_)
   first|rintro e w2 rfl hb2|rintro e w2 ⟨rfl,hb2⟩
   rw [HD.out];have hbb2:=bel2 hbb1 hb2;have hbx2:=(hb2.block _ (jO HBX1.out)).trans HBX1.out;have HV2:=ab (HV1.out.later hb2);clear e0 e1 e2 e3 e4 e5 e6 e7 e8;obtain⟨e0,e1,e2,e3,e4,e5,e6,e7,e8⟩:=jR hbx2;clear hb2 hbx2;go_wp2
   go_ret
   exact⟨rfl,hbb2⟩
 ·have g1':decide ((p:Int)≤512)=false:=CP g1
  have HE:Hid (mayB (.mk k c ng rs lo hi lz ks)=false):=ab (by rw [HR.out,g1'];rfl);rw [HE.out];go_enter Tryz.func36,Tryz.ntmps36
  go_wp2_with (go_at_call 66;refine(oQ S _ _ (Cp _) jd _ _ HV.out).mono ?_)
  first|rintro e w1 rfl hb1|rintro e w1 ⟨rfl,hb1⟩
  rw [HP.out];rw [←HW0.out] at hb1;replace hb1:Below w0.heap.size w0 w1:=hb1.mono (by rw [HW0.out];simp);have hbb1:=bel2 hb0 hb1;have hbx1:=(hb1.block _ (jO HBX.out)).trans HBX.out;have HV1:=ab ((show RxV w0 S _ _ by rw [HW0.out];exact HV.out).later hb1);have HBX1:=ab hbx1;obtain⟨e0,e1,e2,e3,e4,e5,e6,e7,e8⟩:=jR hbx1;clear hb1 hbx1;go_wp2
  go_ret
  exact⟨rfl,hbb1⟩
open Go.RowKit
theorem ul {x:Rx} (h:mayB x=true):x.wf=true∧x.parts≤512:=by
 exact ec
def mV (x:Rx) (fold:Bool) (s:Str) (z:Int):Option (Nat × Nat × Ps) × Rst:=mu (rcM fold s) x ((rcM fold s).offs.length+1) 0 (mB x.groups z)
def FndVP (E:Nat→Prop) (x:Rx) (fold:Bool) (s:Str) (z:Int) (w:World) (e:Ending) (w':World):Prop :=
 Below w.heap.size w w' ∧
  ((mayB x=false∧e=.returned (.tuple #[mzV,.int .i64 0,.bool false,.int .i64 10]))
  ∨ (mayB x=true∧(mV x fold s z).2.out=true∧e=.returned (.tuple #[mzV,.int .i64 0,.bool false,.int .i64 9]))
  ∨ (mayB x=true∧(mV x fold s z).2.out=false∧(mV x fold s z).1=none∧e=.returned (.tuple #[mzV,.int .i64 ((mV x fold s z).2.fuel:Int),.bool false,.int .i64 0]))
  ∨ (mayB x=true∧(mV x fold s z).2.out=false∧∃a b ps aa c,(mV x fold s z).1=some (a,b,ps)∧e=.returned (.tuple #[.agg #[.int .i64 (((rcM fold s).offs.getD a 0:Nat):Int),.int .i64 (((rcM fold s).offs.getD b 0:Nat):Int),.slice aa x.groups c],.int .i64 ((mV x fold s z).2.fuel:Int),.bool true,.int .i64 0])
    ∧ SlS w' (fun b=>¬E b) aa 2 x.groups (jV ps)∧ps.length=x.groups∧a≤b∧b≤(rcM fold s).cs.length))
theorem place0 (fold:Bool) (s:Str):nY 0 (rcM fold s).offs 0=0:=by
 show nY 0 (lP (kh s) 0) 0=0
 cases kh s<;>rfl
theorem Bo (S E:Nat→Prop) {x:Rx} {cc:List Value} {fold:Bool} {s:Str} {z:Int} (w:World) (hv:RxV w S cc x) (hm:x.parts≤1000000) (hsm:x.small) (hs:s.length≤1000000) (hE:∀b,E b→b<w.heap.size) (hSE:∀b,S b→¬E b) :
  Calls Tryz.prog 21 #[.agg cc.toArray,.bool fold,.string ⟨s.toArray⟩,.int .i64 0,.int .i64 z] w (FndVP E x fold s z w):=by
 have hv0:=hv;obtain⟨X,hX⟩:∃X,X=x:=⟨_,rfl⟩;obtain⟨xk,c,ng,rs,lo,xh,lz,ks⟩:=x;obtain⟨ra,rc,ka,kc,rfl,_,_⟩:=hv0.open_;rw [←hX] at hv hm hsm ⊢;obtain⟨W1,hW1⟩:∃W1,W1=(w.alloc (.cells #[.int .i64 xk,.string ⟨c.toArray⟩,.bool ng,.slice ra rs.length rc,.int .i64 lo,.int .i64 xh,.bool lz,.slice ka ks.length kc] 25)).alloc (.cells #[.int .i64 0,.int .i64 0,.slice none 0 0] 60):=⟨_,rfl⟩;have hb1:Below w.heap.size w W1:=by rw [hW1];exact((Below.refl _ _).alloc (Cp _) _).alloc gF _
 have hz1:W1.heap.size=w.heap.size+2:=by rw [hW1];simp
 have HX1:Hid (W1.heap[w.heap.size]?=some (.cells #[.int .i64 xk,.string ⟨c.toArray⟩,.bool ng,.slice ra rs.length rc,.int .i64 lo,.int .i64 xh,.bool lz,.slice ka ks.length kc] 25 (0,0))):=ab hZ;have HM1:Hid (W1.heap[w.heap.size+1]?=some (.cells #[.int .i64 0,.int .i64 0,.slice none 0 0] 60 (0,0))):=ab gI;have HM:=ab (qw S X _ W1 hm hsm (hv.later hb1));obtain⟨p0,p1,p2,p3,p4,p5,p6,p7⟩:=px HX1.out;have HV:=ab hv;have HW1:=ab hW1;have HB1:=ab hb1;have HZ1:=ab hz1;have HSM:=ab hsm;have HPM:=ab hm;have HEE:=ab hE;have HSE:=ab hSE;clear hE hSE;clear hv hv0 hsm hm hW1 hb1 hz1 hX;unfold rxc at HM ⊢;go_enter Tryz.func21,Tryz.ntmps21
 go_upto_region 1 with fail
 rw [←HW1.out];clear HW1;go_wp2_with (go_at_call 36;refine HM.out.mono ?_)
 first|rintro e w2 rfl hb2|rintro e w2 ⟨rfl,hb2⟩
 have HB2:=ab hb2;have HM2:=ab ((hb2.block _ (jO HM1.out)).trans HM1.out);have HX2:=ab ((hb2.block _ (jO HX1.out)).trans HX1.out);have HB12:=ab (bel2 HB1.out hb2);have hz2:=hb2.size;clear hb2 p0 p1 p2 p3 p4 p5 p6 p7 HM;cases hmb:mayB X with
 | false =>
  have HRES:=ab (lC (cs:=#[.int .i64 0,.int .i64 0,.slice none 0 0]) HM2.out);have HMB:=ab hmb;clear hmb;go_wp2_with (refine kE rfl 60 (.tmp 10) (.tmp 21) rfl ((w.heap.size+1)) (#[.int .i64 0,.int .i64 0,.slice none 0 0]) rfl rfl 60 _ (HM2.out) (kl) rfl rfl (gG) (W:=(w2.setRow (w.heap.size+1) #[.int .i64 0,.int .i64 0,.slice none 0 0])) (rfl) ?_)
  refine CJ (mD Tryz.results21 kS kl HRES.out rfl rfl rfl rfl rfl) rfl ?_;exact⟨below_setRow HB12.out (Nat.le_succ _) _,.inl ⟨HMB.out,rfl⟩⟩
 | true =>
  have hwf:=ul hmb;have hgn:=Rx.groups_parts X;have hB13:w.heap.size+1<w2.heap.size:=by have:=HZ1.out;omega
  have hDD:∀b,(b=w.heap.size+1∨E b)→b<w2.heap.size:=fun b h=>by
   rcases h with h|h
   ·omega
   ·have:=HEE.out b h;have:=HB12.out.size;omega
  have HST:=ab (vl (fun b=>b=w.heap.size+1∨E b) fold s z w2 hs hDD);clear hDD;have HWF:=ab hwf.1;have hg5:X.groups≤1000000:=by have:=hwf.2;omega
  have HMB:=ab hmb;clear hmb hwf;go_wp2_with (go_at_call 38;refine HST.out.mono ?_)
  rintro e w3 ⟨R,rfl,hB⟩;have hCC:=hB.C;have HPL:Hid (Calls Tryz.prog 40 #[.pointer (some ⟨R.r,0,none⟩),.int .i64 0] w3 fun e w'=>e=.returned (.int .i64 0)∧w3=w'):=ab (by
   have h:=sM hB.ok hB.run 0;rw [hCC,place0] at h;exact h)
  have hb3:=hB.bel;have hz3:=hb3.size;have HX3:=ab ((hb3.block _ (jO HX2.out)).trans HX2.out);have HM3:=ab ((hb3.block _ (jO HM2.out)).trans HM2.out);have hnr:=hB.new;have htv:TreeV R X.groups X (rxc xk c ng ra rs.length rc lo xh lz ka ks.length kc) w3 :=
   ⟨(HV.out.mono fun b hS hl=>⟨by omega,by rw [hB.D];exact fun h=>h.elim (fun h=>by omega) (HSE.out b hS)⟩).later (bel2 HB12.out hb3),rfl,HWF.out,HSM.out,HPM.out⟩
  have hfd:=uT hB.ok hg5 (st:=mB X.groups z) rfl hB.run htv (k:=0) (N:=R.C.offs.length+1) gu (by rw [hB.ok.of];omega);have hQ:mu R.C X (R.C.offs.length+1) 0 (mB X.groups z)=mV X fold s z:=by rw [hCC];rfl
  rw [hQ] at hfd;obtain⟨Q,hQQ⟩:∃Q,mV X fold s z=Q:=⟨_,rfl⟩;rw [hQQ] at hfd;have HFD:=ab hfd;have HQ:=ab hQQ;have HB:=ab hB;have HCC:=ab hCC;have HB3:=ab (bel2 HB12.out hb3);obtain⟨p0,p1,p2,p3,p4,p5,p6,p7⟩:=px HX3.out;unfold rxc at HFD;clear hB hCC hb3 htv hfd hQ hQQ;go_wp2_with (first
   | (go_at_call 40;refine HPL.out.mono ?_;rintro e w4 ⟨rfl,rfl⟩)
   | (go_at_call 39;refine HFD.out.mono ?_))
  rintro e w4 ⟨hr4,hf4,hm4⟩;obtain⟨ia,ib,aa,nn,cc,okb,rfl,hend⟩:∃(ia ib:Int) (aa:Option Addr) (nn cc:Nat) (okb:Bool),e=.returned (.tuple #[.agg #[.int .i64 ia,.int .i64 ib,.slice aa nn cc],.bool okb]) ∧
    ((Q.1=none∧okb=false∧ia=0∧ib=0∧aa=none∧nn=0∧cc=0)∨(∃a b ps,Q.1=some (a,b,ps)∧okb=true∧ia=((R.C.offs.getD a 0:Nat):Int)∧ib=((R.C.offs.getD b 0:Nat):Int)∧nn=X.groups∧SlS w4 R.S aa 2 X.groups (jV ps)∧ps.length=X.groups∧a≤b∧b≤R.C.cs.length)):=by
   cases hq1:Q.1 with
   | none=>exact eF
   | some t =>
    obtain⟨a,b,ps⟩:=t;rw [hq1] at hm4;obtain⟨aa,c9,he,h1,h2,_,h4,h5⟩:=hm4;exact⟨_,_,aa,X.groups,c9,true,he,.inr ⟨a,b,ps,rfl,rfl,rfl,rfl,rfl,h1,h2,h4,h5⟩⟩
  have hf4:Fv R w3 w4:=hf4;have hBr:w.heap.size+1≠R.r:=gu;have HM4:=ab ((hf4.block _ (jO HM3.out) hBr).trans HM3.out);have hb4:Below w.heap.size w w4:=HB3.out.trans (hf4.below HB3.out.size (fun k hk=>by rw [show k=R.r from hk];omega));obtain⟨W5,hW5⟩:∃W5,W5=w4.alloc (.cells #[.int .i64 ia,.int .i64 ib,.slice aa nn cc] 60):=⟨_,rfl⟩;have hb5:Below w4.heap.size w4 W5:=by rw [hW5];exact(Below.refl _ _).alloc (Cp _) _
  have hl5:W5.heap[w4.heap.size]?=some (.cells #[.int .i64 ia,.int .i64 ib,.slice aa nn cc] 60 (0,0)):=by rw [hW5];exact heap_alloc_new w4 _
  have m0:W5.cell? ⟨w4.heap.size,0,none⟩=some (.int .i64 ia):=by rw [Cv hl5];rfl
  have m1:W5.cell? ⟨w4.heap.size,1,none⟩=some (.int .i64 ib):=by rw [Cv hl5];rfl
  have m2:W5.cell? ⟨w4.heap.size,2,none⟩=some (.slice aa nn cc):=by rw [Cv hl5];rfl
  have HT:=ab (AR (hr4.later hb5) ia ib aa nn cc okb);have HM5:=ab ((hb5.block _ (jO HM4.out)).trans HM4.out);have HB5:=ab (bel2 hb4 hb5);have HEND:=ab hend;have HB45:=ab hb5;have HW5:=ab hW5;clear hr4 hf4 hm4 hb4 hb5 hl5 hW5 hend HFD p0 p1 p2 p3 p4 p5 p6 p7;cases hout:Q.2.out with
  | true =>
   rw [hout] at HT;have HOUT:=ab hout;clear hout;go_upto_region 8 with fail
   rw [←HW5.out];go_wp2_with (go_at_call 41;refine HT.out.mono ?_)
   first|rintro e w6 rfl hb6|rintro e w6 ⟨rfl,hb6⟩
   have HM6:=ab ((hb6.block _ (jO HM5.out)).trans HM5.out);have HRES:=ab (lC (cs:=#[.int .i64 0,.int .i64 0,.slice none 0 0]) HM6.out);have HB6:=ab (bel2 HB5.out hb6);clear hb6;simp only [mzV];go_wp2_with (refine kE rfl 60 (.tmp 10) (.tmp 43) rfl ((w.heap.size+1)) (#[.int .i64 0,.int .i64 0,.slice none 0 0]) rfl rfl 60 _ (HM6.out) (kl) rfl rfl (gG) (W:=(w6.setRow (w.heap.size+1) #[.int .i64 0,.int .i64 0,.slice none 0 0])) (rfl) ?_)
   refine CJ (mD Tryz.results21 kS kl HRES.out rfl rfl rfl rfl rfl) rfl ?_;exact⟨below_setRow HB6.out (Nat.le_succ _) _,.inr (.inl ⟨HMB.out,by rw [HQ.out];exact HOUT.out,rfl⟩)⟩
  | false =>
   rw [hout] at HT;have HOUT:=ab hout;clear hout;go_upto_region 8 with fail
   rw [←HW5.out];go_wp2_with (go_at_call 41;refine HT.out.mono ?_)
   first|rintro e w6 rfl hb6|rintro e w6 ⟨rfl,hb6⟩
   have HM6:=ab ((hb6.block _ (jO HM5.out)).trans HM5.out);have HRES:=ab (lC (cs:=#[.int .i64 ia,.int .i64 ib,.slice aa nn cc]) HM6.out);have HB6:=ab (bel2 HB5.out hb6);have HB46:=ab (bel2 HB45.out hb6);clear hb6;go_wp2_with (refine kE rfl 60 (.tmp 10) (.tmp 43) rfl ((w.heap.size+1)) (#[.int .i64 ia,.int .i64 ib,.slice aa nn cc]) rfl rfl 60 _ (HM6.out) (kl) rfl rfl (gG) (W:=(w6.setRow (w.heap.size+1) #[.int .i64 ia,.int .i64 ib,.slice aa nn cc])) (rfl) ?_)
   refine CJ (mD Tryz.results21 kS kl HRES.out rfl rfl rfl rfl rfl) rfl ?_;refine⟨below_setRow HB6.out (Nat.le_succ _) _,?_⟩;rw [HQ.out];rcases HEND.out with⟨h1,rfl,rfl,rfl,rfl,rfl,rfl⟩|⟨a,b,ps,h1,rfl,rfl,rfl,rfl,h6,h7,h8,h9⟩
   ·exact .inr (.inr (.inl ⟨HMB.out,HOUT.out,h1,rfl⟩))
   ·refine .inr (.inr (.inr ⟨HMB.out,HOUT.out,a,b,ps,aa,cc,h1,by rw [←HCC.out];rfl,?_,h7,h8,by rw [←HCC.out];exact h9⟩))
    have hk9:Kept R.S w4 (w6.setRow (w.heap.size+1) #[.int .i64 ((R.C.offs.getD a 0:Nat):Int),.int .i64 ((R.C.offs.getD b 0:Nat):Int),.slice aa X.groups cc]) :=
     ⟨by rw [oB];exact HB46.out.size,fun k hk hl=>(lY _ (fun e=>hk.2 (by rw [HB.out.D];exact .inl e))).trans (HB46.out.block k hl)⟩
    exact(h6.keep hk9).mono fun _ hk _ h=>hk.2 (by rw [HB.out.D];exact .inr h)
open Go.RowKit
theorem rR:(Tryz.prog.info? 60).map (fun i=>(i.zero,i.size,i.bytes))=some (some (.agg #[.int .i64 0,.int .i64 0,.slice none 0 0]),3,40):=by kernel_rfl
def OwnV (w:World) (r D:Nat) (offs:List Nat) (n:Nat) (v:Value) (ms:List Mt):Prop :=
 r<D∧∃css,w.ownsRow D 60 3 v ms.length css.flatten∧MtVs w (fun b=>b≠r∧v.ownBlock≠some b) offs n css ms
theorem OwnV.nil (w:World) {r D:Nat} (h:r<D) (offs:List Nat) (n:Nat):OwnV w r D offs n (.slice none 0 0) []:=⟨h,[],World.ownsRow_nil _ _ _ _,.nil⟩
theorem OwnV.fv {w w':World} {r D:Nat} {offs:List Nat} {n:Nat} {v:Value} {ms:List Mt} (h:OwnV w r D offs n v ms) (hg:Gx (fun k=>k=r) w w'):OwnV w' r D offs n v ms:=by
 obtain⟨h0,css,h1,h2⟩:=h;exact⟨h0,css,pe h1 hg (fun k hk e=>by have:=(h1.lt k hk).1;have e:k=r:=e;omega),h2.keep (hg.kept fun b hb e=>hb.1 e)⟩
theorem OwnV.form {w:World} {r D:Nat} {offs:List Nat} {n:Nat} {v:Value} {ms:List Mt} (h:OwnV w r D offs n v ms):∃a c,v=.slice a ms.length c:=by
 obtain⟨_,css,h1,_⟩:=h;exact j7 h1
theorem OwnV.app {w w':World} {r D:Nat} {offs:List Nat} {n:Nat} {v v':Value} {ms:List Mt} {m:Mt} {css:List (List Value)} {c:List Value} (h0:r<D) (h1:MtVs w (fun b=>b≠r∧v.ownBlock≠some b) offs n css ms) (h2:MtV w (fun b=>b≠r∧v.ownBlock≠some b) offs n c m)
  (ho:w'.ownsRow D 60 3 v' (ms.length+1) (css.flatten++c)) (hg:w.grownBy w' v.ownBlock) (hmv:sw w v v'):OwnV w' r D offs n v' (ms++[m]):=by
 refine⟨h0,css++[c],by rw [List.flatten_append,Cy];simpa using ho,?_⟩;have hk:Kept (fun b=>(b≠r∧v.ownBlock≠some b)∧b<w.heap.size) w w':=⟨hg.size,fun b hb hlt=>hg.block b hlt (fun e=>hb.1.2 e.symm)⟩;refine(((h1.snoc h2).mono (S':=fun b=>(b≠r∧v.ownBlock≠some b)∧b<w.heap.size) fun b h1 h2=>⟨h1,h2⟩).keep hk).mono fun b hb _=>⟨hb.1.1,fun e=>?_⟩
 exact cZ
theorem qK:∀(l:List Nat) (i k:Nat),wL l→k<l.length→nY ((l.getD k 0:Nat):Int) l i=((i+k:Nat):Int)
 | [],_,_,_,h=>by simp at h
 | o::l,i,0,_,_=>by simp [nY]
 | o::l,i,k+1,hr,hk=>by
  have h1:=hr 0 (k+1) gu hk;simp only [List.getD_cons_zero,List.getD_cons_succ] at h1;have ih:=qK l (i+1) k (fun a b h2 h3=>by have:=hr (a+1) (b+1) gu (by simpa using h3);simpa using this) (by simpa using hk);simp only [nY,List.getD_cons_succ];rw [Co gu,ih];congr 1;omega
theorem xe (s:Str):wL (lP (kh s) 0):=fun a b h1 h2=>by
 exact dz
theorem Kept.mono_ {S S':Nat→Prop} {w w':World} (h:Kept S w w') (hS:∀b,S' b→S b):Kept S' w w':=⟨h.1,fun b hb hl=>h.2 b (hS b hb) hl⟩
def Vn.off (R:Vn) (lo hi:Nat):Vn:={ R with D:=fun k=>R.D k∨(lo≤k∧k<hi) }
theorem VnOk.off {R:Vn} (h:VnOk R) (lo hi:Nat):VnOk (R.off lo hi):=⟨h.cs,h.ch,h.of,h.ov⟩
theorem Vn.off_S {R:Vn} {lo hi k:Nat} (h:(R.off lo hi).S k):R.S k∧¬(lo≤k∧k<hi):=⟨⟨h.1,fun e=>h.2 (.inl e)⟩,fun e=>h.2 (.inr e)⟩
theorem Vn.S_off {R:Vn} {lo hi k:Nat} (h:R.S k) (hk:k<lo):(R.off lo hi).S k:=⟨h.1,fun e=>e.elim h.2 (fun e=>by omega)⟩
theorem RunV.off_ {R:Vn} {w W:World} {fu0 fu:Nat} {o0 o:Bool} (h0:RunV R w fu0 o0) (h:RunV R W fu o) (hf:Fv R w W):RunV (R.off w.heap.size W.heap.size) W fu o :=
 ⟨h.box,(h0.ch.mono fun _ hk hl=>Vn.S_off hk hl).keep (hf.kept.mono_ fun _ hb=>(Vn.off_S hb).1),(h0.of.mono fun _ hk hl=>Vn.S_off hk hl).keep (hf.kept.mono_ fun _ hb=>(Vn.off_S hb).1),h.fu,
  fun k hk=>hk.elim (fun e=>h.dl k e) (fun e=>e.2)⟩
theorem RunV.unoff {R:Vn} {w:World} {fu lo hi:Nat} {o:Bool} (h:RunV (R.off lo hi) w fu o):RunV R w fu o :=
 ⟨h.box,h.ch.mono fun _ hk _=>(Vn.off_S hk).1,h.of.mono fun _ hk _=>(Vn.off_S hk).1,h.fu,fun k hk=>h.dl k (.inl hk)⟩
theorem TreeV.off_ {R:Vn} {n:Nat} {x:Rx} {cc:List Value} {w W:World} (h:TreeV R n x cc w) (hf:Fv R w W):TreeV (R.off w.heap.size W.heap.size) n x cc W :=
 ⟨(h.v.mono fun _ hk hl=>Vn.S_off hk hl).keep (hf.kept.mono_ fun _ hb=>(Vn.off_S hb).1),h.n,h.wf,h.sm,h.pt⟩
def pP (x:Rx) (fold:Bool) (s:Str) (z:Int):List Mt × Rst:=allM (rcM fold s) x ((rcM fold s).offs.length+1) 0 (mB x.groups z)
def AllVP (x:Rx) (fold:Bool) (s:Str) (z:Int) (w:World) (e:Ending) (w':World):Prop :=
 Below w.heap.size w w' ∧
  ((mayB x=false∧e=.returned (.tuple #[.slice none 0 0,.int .i64 0,.int .i64 10]))
  ∨ (mayB x=true∧(pP x fold s z).2.out=true∧e=.returned (.tuple #[.slice none 0 0,.int .i64 0,.int .i64 9]))
  ∨ (mayB x=true∧(pP x fold s z).2.out=false∧∃a c css,e=.returned (.tuple #[.slice a (pP x fold s z).1.length c,.int .i64 ((pP x fold s z).2.fuel:Int),.int .i64 0])∧SlS w' Any a 3 (pP x fold s z).1.length css.flatten∧MtVs w' Any (rcM fold s).offs x.groups css (pP x fold s z).1))
def AlV (R:Vn) (x:Rx) (n:Nat) (Q:List Mt × Rst) (w:World) (v q:Value) (wr:World):Prop :=
 ∃(k N:Nat) (s:Rst) (acc:List Mt),k≤R.C.cs.length+1∧R.C.cs.length+1-k<N∧acc.length≤k∧q=.int .i64 (k:Int)∧s.out=false∧RunV R wr s.fuel false∧Fv R w wr∧OwnV wr R.r w.heap.size R.C.offs n v acc∧Hid ((acc++(allM R.C x N k s).1,(allM R.C x N k s).2)=Q)
theorem OwnV.out {w:World} {r D:Nat} {offs:List Nat} {n:Nat} {a:Option Addr} {c:Nat} {ms:List Mt} (h:OwnV w r D offs n (.slice a ms.length c) ms):∃css,SlS w Any a 3 ms.length css.flatten∧MtVs w Any offs n css ms:=by
 obtain⟨_,css,h1,h2⟩:=h;exact⟨css,(mQ h1).mono fun _ _ _=>trivial,h2.mono fun _ _ _=>trivial⟩
theorem All_anyV (S:Nat→Prop) {x:Rx} {cc:List Value} {fold:Bool} {s:Str} {z:Int} (w:World) (hv:RxV w S cc x) (hm:x.parts≤1000000) (hsm:x.small) (hs:s.length≤1000000) :
  Calls Tryz.prog 20 #[.agg cc.toArray,.bool fold,.string ⟨s.toArray⟩,.int .i64 z] w (AllVP x fold s z w):=by
 have hv0:=hv;obtain⟨X,hX⟩:∃X,X=x:=⟨_,rfl⟩;obtain⟨xk,c,ng,rs,lo,xh,lz,ks⟩:=x;obtain⟨ra,rc,ka,kc,rfl,_,_⟩:=hv0.open_;rw [←hX] at hv hm hsm ⊢;obtain⟨W1,hW1⟩:∃W1,W1=w.alloc (.cells #[.int .i64 xk,.string ⟨c.toArray⟩,.bool ng,.slice ra rs.length rc,.int .i64 lo,.int .i64 xh,.bool lz,.slice ka ks.length kc] 25):=⟨_,rfl⟩;have hb1:Below w.heap.size w W1:=by rw [hW1];exact(Below.refl _ _).alloc (Cp _) _
 have hz1:W1.heap.size=w.heap.size+1:=by rw [hW1];simp
 have HX1:Hid (W1.heap[w.heap.size]?=some (.cells #[.int .i64 xk,.string ⟨c.toArray⟩,.bool ng,.slice ra rs.length rc,.int .i64 lo,.int .i64 xh,.bool lz,.slice ka ks.length kc] 25 (0,0))):=ab (by rw [hW1];exact heap_alloc_new w _);have HM:=ab (qw S X _ W1 hm hsm (hv.later hb1));obtain⟨p0,p1,p2,p3,p4,p5,p6,p7⟩:=px HX1.out;have HV:=ab hv;have HW1:=ab hW1;have HB1:=ab hb1;have HZ1:=ab hz1;have HSM:=ab hsm;have HPM:=ab hm;clear hv hv0 hsm hm hW1 hb1 hz1 hX;unfold rxc at HM ⊢;go_enter Tryz.func20,Tryz.ntmps20
 go_upto_region 1 with fail
 rw [←HW1.out];clear HW1;go_wp2_with (go_at_call 36;refine HM.out.mono ?_)
 first|rintro e w2 rfl hb2|rintro e w2 ⟨rfl,hb2⟩
 have HB2:=ab hb2;have HX2:=ab ((hb2.block _ (jO HX1.out)).trans HX1.out);have HB12:=ab (bel2 HB1.out hb2);have hz2:=hb2.size;clear hb2 p0 p1 p2 p3 p4 p5 p6 p7 HM;cases hmb:mayB X with
 | false =>
  have HMB:=ab hmb;clear hmb;go_wp2
  go_ret3
  exact⟨HB12.out,.inl ⟨HMB.out,rfl⟩⟩
 | true =>
  have hwf:=ul hmb;have hgn:=Rx.groups_parts X;have HST:=ab (vl (fun _=>False) fold s z w2 hs (fun b h=>h.elim));have HWF:=ab hwf.1;have hg5:X.groups≤1000000:=by have:=hwf.2;omega
  have HMB:=ab hmb;clear hmb hwf;go_wp2_with (go_at_call 38;refine HST.out.mono ?_)
  rintro e w3 ⟨R,rfl,hB⟩;have hCC:=hB.C;have hb3:=hB.bel;have hz3:=hb3.size;have HX3:=ab ((hb3.block _ (jO HX2.out)).trans HX2.out);have hnr:=hB.new;have htv:TreeV R X.groups X (rxc xk c ng ra rs.length rc lo xh lz ka ks.length kc) w3 :=
   ⟨(HV.out.mono fun b _ hl=>⟨by have:=HZ1.out;omega,by rw [hB.D];exact fun h=>h⟩).later (bel2 HB12.out hb3),rfl,HWF.out,HSM.out,HPM.out⟩
  obtain⟨Q,hQ⟩:∃Q,allM R.C X (R.C.offs.length+1) 0 (mB X.groups z)=Q:=⟨_,rfl⟩;have hqf:pP X fold s z=Q:=by rw [←hQ,hCC];rfl
  have HQ:=ab hQ;have HQF:=ab hqf;have HB:=ab hB;have HCC:=ab hCC;have HTV:=ab htv;have HB3:=ab (bel2 HB12.out hb3);have hcs:=hB.ok.cs;have hol:=hB.ok.of;have HI:=ab (info_parts rR);have hrl:=hB.run.lt;have hxr:w.heap.size≠R.r:=by have:=HZ1.out;omega
  have hwR:w.heap.size≤R.r:=by have:=HZ1.out;omega
  clear hB hCC hb3 htv hQ hqf;go_upto_region 6 with fail
  go_loopw [12,13] (fun v q wr=>AlV R X X.groups Q w3 v q wr) (fun _ q _=>R.C.cs.length+1-(intOf q).toNat)
  case atStart=>exact⟨0,R.C.offs.length+1,mB X.groups z,[],by omega,by omega,by simp,rfl,rfl,HB.out.run,Gx.refl _ _,OwnV.nil _ hrl _ _,ab (by rw [HQ.out];rfl)⟩
  case round =>
   obtain⟨k,N,st,acc,hk,hN,hal,rfl,hout,hj,hgx,hown,HF⟩:=hrel;obtain⟨N,rfl⟩:∃m,N=m+1:=⟨N-1,by omega⟩;obtain⟨va,vc,rfl⟩:=hown.form;have HJ:=ab hj;have HG:=ab hgx;have HO:=ab hown;have HOUT:=ab hout;have c1:wr.cell? ⟨R.r,1,none⟩=some (.slice R.oa (R.C.cs.length+1) R.oc):=hj.c1;have c3:wr.cell? ⟨R.r,3,none⟩=some (.int .i64 (st.fuel:Int)):=hj.c3;have hzr:=hgx.size;have HBR:Hid (Below w.heap.size w wr):=ab (HB3.out.trans (hgx.below HB3.out.size (fun b hb=>by rw [show b=R.r from hb];exact hwR)));obtain⟨p0,p1,p2,p3,p4,p5,p6,p7⟩:=px ((hgx.block _ (jO HX3.out) hxr).trans HX3.out);clear HQ hj hgx hown hout;by_cases hlt:k<R.C.cs.length+1
   ·have hf:=uT (HB.out.ok.off w3.heap.size wr.heap.size) hg5 HOUT.out (HB.out.run.off_ HJ.out HG.out) (HTV.out.off_ HG.out) (k:=k) (N:=R.C.offs.length+1) (by show k≤R.C.cs.length+1;omega) (by show R.C.cs.length+1-k<_;omega)
    obtain⟨q,hq⟩:∃q,mu R.C X (R.C.offs.length+1) k st=q:=⟨_,rfl⟩;rw [show mu (R.off w3.heap.size wr.heap.size).C X (R.C.offs.length+1) k st=q from hq] at hf;have hal2:allM R.C X (N+1) k st=(match q.1 with|some (a,b,ps)=>if q.2.out=true then([],q.2) else(((a,b,ps)::(allM R.C X N (if a=b then b+1 else b) q.2).1,(allM R.C X N (if a=b then b+1 else b) q.2).2))|none=>([],q.2)):=by
     refine(Cl (c:=k<R.C.offs.length) gu).trans ?_
     rw [←hq];rfl
    rw [hal2] at HF;have HFI:=ab hf;have hlti:(k:Int)<(R.C.cs.length:Int)+1:=gu;unfold rxc at HFI;clear hf hal2 hq c3;go_wp2_with (go_at_call 39;refine HFI.out.mono ?_)
    rintro e w4 ⟨hj4,hg4,hm4⟩;obtain⟨ia,ib,aa,nn,cc,okb,rfl,hend⟩:∃(ia ib:Int) (aa:Option Addr) (nn cc:Nat) (okb:Bool),e=.returned (.tuple #[.agg #[.int .i64 ia,.int .i64 ib,.slice aa nn cc],.bool okb]) ∧
      ((q.1=none∧okb=false)∨(∃a b ps,q.1=some (a,b,ps)∧okb=true∧ia=((R.C.offs.getD a 0:Nat):Int)∧ib=((R.C.offs.getD b 0:Nat):Int)∧nn=X.groups∧SlS w4 (R.off w3.heap.size wr.heap.size).S aa 2 X.groups (jV ps)∧ps.length=X.groups∧k≤a∧a≤b∧b≤R.C.cs.length)):=by
     cases hq1:q.1 with
     | none=>rw [hq1] at hm4;exact⟨0,0,none,0,0,false,hm4,.inl ⟨rfl,rfl⟩⟩
     | some t =>
      obtain⟨a,b,ps⟩:=t;rw [hq1] at hm4;obtain⟨aa,c9,he,h1,h2,h3,h4,h5⟩:=hm4;exact⟨_,_,aa,X.groups,c9,true,he,.inr ⟨a,b,ps,rfl,rfl,rfl,rfl,rfl,h1,h2,h3,h4,h5⟩⟩
    have hg4:Fv R wr w4:=hg4;have hj4:RunV R w4 q.2.fuel q.2.out:=hj4.unoff;obtain⟨W5,hW5⟩:∃W5,W5=w4.alloc (.cells #[.int .i64 ia,.int .i64 ib,.slice aa nn cc] 60):=⟨_,rfl⟩;have hb5:Below w4.heap.size w4 W5:=by rw [hW5];exact(Below.refl _ _).alloc (Cp _) _
    have hl5:W5.heap[w4.heap.size]?=some (.cells #[.int .i64 ia,.int .i64 ib,.slice aa nn cc] 60 (0,0)):=by rw [hW5];exact heap_alloc_new w4 _
    have hj5:=hj4.later hb5;have z4:=hg4.size;have z5:W5.heap.size=w4.heap.size+1:=by rw [hW5];simp
    have HG5:Hid (Fv R w3 W5):=ab ((HG.out.trans hg4).trans (Gx.of_below hb5));have HO5:Hid (OwnV W5 R.r w3.heap.size R.C.offs X.groups (.slice va acc.length vc) acc):=ab ((HO.out.fv hg4).fv (Gx.of_below hb5));have HB5:Hid (Below w.heap.size w W5):=ab (bel2 (HBR.out.trans (hg4.below HBR.out.size (fun b hb=>by rw [show b=R.r from hb];exact hwR))) hb5);obtain⟨oo,hoo⟩:∃o,q.2.out=o:=⟨_,rfl⟩;obtain⟨ff,hff⟩:∃f,q.2.fuel=f:=⟨_,rfl⟩;have c4:W5.cell? ⟨R.r,4,none⟩=some (.bool oo):=by rw [←hoo];exact hj5.c4
    have c3:W5.cell? ⟨R.r,3,none⟩=some (.int .i64 (ff:Int)):=by rw [←hff];exact hj5.c3
    have m0:W5.cell? ⟨w4.heap.size,0,none⟩=some (.int .i64 ia):=by rw [Cv hl5];rfl
    have m1:W5.cell? ⟨w4.heap.size,1,none⟩=some (.int .i64 ib):=by rw [Cv hl5];rfl
    have m2:W5.cell? ⟨w4.heap.size,2,none⟩=some (.slice aa nn cc):=by rw [Cv hl5];rfl
    have HEND:Hid ((q.1=none∧okb=false)∨(∃a b ps,q.1=some (a,b,ps)∧okb=true∧ia=((R.C.offs.getD a 0:Nat):Int)∧ib=((R.C.offs.getD b 0:Nat):Int)∧nn=X.groups∧SlS W5 (R.off w3.heap.size wr.heap.size).S aa 2 X.groups (jV ps)∧ps.length=X.groups∧k≤a∧a≤b∧b≤R.C.cs.length)) :=
     ab (hend.imp id (fun⟨a,b,ps,h1,h2,h3,h4,h5,h6,h7⟩=>⟨a,b,ps,h1,h2,h3,h4,h5,h6.keep (Kept.all hb5),h7⟩))
    have HW5:=ab hW5;have HJ5:=ab hj5;have HL5:=ab hl5;have HOO:=ab hoo;have HFF:=ab hff;have HZ5:=ab z5;clear hj4 hg4 hm4 hend hW5 hb5 hl5 hj5 z5 hoo hff HFI c1 p0 p1 p2 p3 p4 p5 p6 p7;cases oo with
    | true =>
     exact cC
    | false =>
     rcases HEND.out with⟨h1,rfl⟩|⟨a,b,ps,h1,rfl,h2,h3,h4,h5⟩
     ·rw [h1] at HF
      go_upto_region 8 with fail
      rw [←HW5.out];go_wp2
      have e15:W5.drew.cell? ⟨R.r,3,none⟩=some (.int .i64 (ff:Int)):=c3;go_quiet (fail)
      go_wp2
      go_ret3
      have hqa:(pP X fold s z).1=acc:=by rw [HQF.out,←HF.out];simp
      obtain⟨css,hs9,hm9⟩:=OwnV.out (HO5.out.fv (Gx.of_below (below_drewN (Below.refl _ W5) nq)));refine⟨below_drewN HB5.out _,.inr (.inr ⟨HMB.out,?_,va,vc,css,?_,?_,?_⟩)⟩
      ·rw [HQF.out,←HF.out];exact HOO.out
      ·rw [hqa,show (pP X fold s z).2.fuel=ff by rw [HQF.out,←HF.out];exact HFF.out];rfl
      ·rw [hqa];exact hs9
      ·rw [hqa,←HCC.out];exact hm9
     ·have HF2:=HF.out
      rw [h1] at HF2;simp only [HOO.out,C1,if_false] at HF2;have HF2:=ab HF2;clear HF HEND;obtain⟨hs5,hpl,hka,hab,hbl⟩:=h5;have hab:k≤a∧a≤b∧b≤R.C.cs.length:=⟨hka,hab,hbl⟩;obtain⟨h0r,css,hrow,hms⟩:=HO5.out;have hob:∀b,(Value.slice va acc.length vc).ownBlock=some b→w3.heap.size≤b∧b<wr.heap.size:=by
       obtain⟨_,_,hrow0,_⟩:=HO.out;exact hrow0.lt
      have hcu:Below W5.heap.size W5 (W5.alloc (.cells #[.int .i64 ia,.int .i64 ib,.slice aa nn cc] 60)):=(Below.refl _ _).alloc (Cp _) _;have ho6:=kL hrow hcu;have hsl:=Sl.lit (n:=1) (sz:=3) (heap_alloc_new W5 (.cells #[.int .i64 ia,.int .i64 ib,.slice aa nn cc] 60)) rfl;have hone:∀u∈([.int .i64 ia,.int .i64 ib,.slice aa nn cc]:List Value),u.oneCell'=true:=gG;have z5:=HZ5.out;have hmv6:MtV (W5.alloc (.cells #[.int .i64 ia,.int .i64 ib,.slice aa nn cc] 60)) (fun b=>b≠R.r∧(Value.slice va acc.length vc).ownBlock≠some b) R.C.offs X.groups [.int .i64 ia,.int .i64 ib,.slice aa nn cc] (a,b,ps) :=
       ⟨aa,cc,by rw [h2,h3,h4],(hs5.keep (Kept.all hcu)).mono (fun b hb _=>⟨(Vn.off_S hb).1.1,fun e=>(Vn.off_S hb).2 (hob b e)⟩),hpl,hab.2.1,by show b+1≤R.C.offs.length;omega⟩
      have hms6:=hms.keep (Kept.all hcu);have hszo:w3.heap.size≤(W5.alloc (.cells #[.int .i64 ia,.int .i64 ib,.slice aa nn cc] 60)).heap.size:=by simp;omega
      have hlen:acc.length≤10000000:=gu;have HO6:=ab ho6;have HSL:=ab hsl;have HONE:=ab hone;have HMV6:=ab hmv6;have HMS6:=ab hms6;have HOB:=ab hob;have HCU:=ab hcu;have H2:=ab h2;have H3:=ab h3;have HAB:=ab hab;obtain⟨iM,hiM⟩:=HI.out;clear ho6 hsl hone hmv6 hms6 hob hcu hs5 hpl hrow hms h1 h2 h3 h4 z5 hab;go_upto_region 8 with fail
      rw [←HW5.out];go_wp2_with (at_builtin;refine ke w3.heap.size 60 rfl _ _ 57 rfl Tryz.underlying57 hiM rfl gD rfl HO6.out rfl HSL.out HONE.out gu gu gD hszo ?_)
      intro v1 w7 ho1 hg1 hb7 hmv;have ho7:OwnV w7 R.r w3.heap.size R.C.offs X.groups v1 (acc++[(a,b,ps)]):=OwnV.app h0r HMS6.out HMV6.out (by simpa using ho1) hg1 hmv;have hgx1:Gx (fun b=>(Value.slice va acc.length vc).ownBlock=some b) (W5.alloc (.cells #[.int .i64 ia,.int .i64 ib,.slice aa nn cc] 60)) w7:=Gx.of_grown hg1 (fun k hk=>hk);have hG7:Fv R w3 w7:=(HG5.out.trans (Gx.of_below HCU.out)).to hgx1 (fun b hb e=>by have:=(HOB.out _ e).1;omega);have hbx7:w7.heap[R.r]?=some (.cells (R.cells q.2.fuel q.2.out).toArray 92 (0,0)):=Gx.heap hgx1 ((HCU.out.block _ (jO HJ5.out.box)).trans HJ5.out.box) (fun e=>by have:=(HOB.out _ e).1;omega);have hj7:RunV R w7 q.2.fuel q.2.out:=HB.out.run.fin hG7 hbx7 HJ5.out.fu;have z5:=HZ5.out;have hx7:w7.heap[w4.heap.size]?=some (.cells #[.int .i64 ia,.int .i64 ib,.slice aa nn cc] 60 (0,0)):=Gx.heap hgx1 ((HCU.out.block _ (jO HL5.out)).trans HL5.out) (fun e=>by have:=(HOB.out _ e).2;omega);have n0:w7.cell? ⟨w4.heap.size,0,none⟩=some (.int .i64 ia):=by rw [Cv hx7];rfl
      have n1:w7.cell? ⟨w4.heap.size,1,none⟩=some (.int .i64 ib):=by rw [Cv hx7];rfl
      have hup:wL R.C.offs:=by rw [HCC.out];exact xe s
      have HPL:Hid (Calls Tryz.prog 40 #[.pointer (some ⟨R.r,0,none⟩),.int .i64 ib] w7 fun e w'=>e=.returned (.int .i64 (b:Int))∧w7=w'):=ab (by
       have h:=sM HB.out.ok hj7 ib;rw [H3.out,qK _ 0 b hup (by have:=HAB.out;omega),Nat.zero_add,←H3.out] at h;exact h)
      have hii:(a=b∧ia=ib)∨(a≠b∧ia≠ib):=by
       have h6:=HAB.out;rcases Nat.lt_or_ge a b with h7|h7
       ·have h8:=hup a b h7 gu
        refine .inr ⟨by omega,?_⟩;rw [H2.out,H3.out];omega
       ·have h8:a=b:=gu
        exact .inl ⟨h8,by rw [H2.out,H3.out,h8]⟩
      have hfin:∀(k':Nat),k'=(if a=b then b+1 else b)→k<k'∧AlV R X X.groups Q w3 v1 (.int .i64 (k':Int)) w7:=fun k' hk'=>by
       have h6:=HAB.out;have hkk:k<k'∧k'≤R.C.cs.length+1:=by rw [hk'];split<;>omega
       refine⟨hkk.1,k',N,q.2,acc++[(a,b,ps)],hkk.2,by omega,by simp;omega,rfl,HOO.out,by have:=hj7;rwa [HOO.out] at this,hG7,ho7,ab ?_⟩;rw [←HF2.out,hk'];simp
      have HFIN:=ab hfin;clear ho1 hg1 hb7 hmv ho7 hgx1 hG7 hbx7 hj7 hx7 z5 hup hfin;rcases hii with⟨h8,h9⟩|⟨h8,h9⟩
      ·go_wp2_with (go_at_call 40;refine HPL.out.mono ?_;rintro e w8 ⟨rfl,rfl⟩)
       go_roundw
       case rel=>exact(HFIN.out (b+1) (by rw [Cl h8])).2
       case measure=>have:=(HFIN.out (b+1) (by rw [Cl h8])).1;simp [intOf];omega
      ·go_wp2_with (go_at_call 40;refine HPL.out.mono ?_;rintro e w8 ⟨rfl,rfl⟩)
       go_roundw
       case rel=>exact(HFIN.out b (by rw [Co h8])).2
       case measure=>have:=(HFIN.out b (by rw [Co h8])).1;simp [intOf];omega
   ·have hge:¬(k:Int)<(R.C.cs.length:Int)+1:=gu
    have hal3:allM R.C X (N+1) k st=([],st):=Co (c:=k<R.C.offs.length) gu;rw [hal3] at HF;have e15:wr.drew.cell? ⟨R.r,3,none⟩=some (.int .i64 (st.fuel:Int)):=c3;clear hal3 p0 p1 p2 p3 p4 p5 p6 p7;go_wp2
    go_quiet (fail)
    go_wp2
    go_ret3
    have hqa:(pP X fold s z).1=acc:=by rw [HQF.out,←HF.out];simp
    obtain⟨css,hs9,hm9⟩:=OwnV.out (HO.out.fv (Gx.of_below (below_drewN (Below.refl _ wr) nq)));refine⟨below_drewN HBR.out _,.inr (.inr ⟨HMB.out,?_,va,vc,css,?_,?_,?_⟩)⟩
    ·rw [HQF.out,←HF.out];exact HOUT.out
    ·rw [hqa,show (pP X fold s z).2.fuel=st.fuel by rw [HQF.out,←HF.out]];rfl
    ·rw [hqa];exact hs9
    ·rw [hqa,←HCC.out];exact hm9
open Go.RowKit
theorem zQ (S:Nat→Prop) (f:Tf) (hsm:f.small) (fc:List Value) (w:World) (hv:TfV w S fc f) :
  Calls Tryz.prog 19 #[.agg fc.toArray] w fun e w'=>e=.returned (.bool (sf f))∧Below w.heap.size w w':=by
 obtain⟨rk,rch,rng,rrs,rlo,rhi,rlz,rks,ra,rcp,rka,rkc,fa,fcp,hc⟩:=hv.open_;obtain⟨X,fs,fd,al⟩:=f;obtain⟨hx,hp,hfs⟩:=hsm;have hx1:X=.mk rk rch rng rrs rlo rhi rlz rks:=hc.rx;have hfce:fc=[.int .i64 rk,.string ⟨rch.toArray⟩,.bool rng,.slice ra rrs.length rcp,.int .i64 rlo,.int .i64 rhi,.bool rlz,.slice rka rks.length rkc,.slice fa fs.length fcp,.bool fd,.bool al]:=hc.eq;obtain⟨W0,hW0⟩:∃W0,W0=w.alloc (.cells fc.toArray 28):=⟨_,rfl⟩;have hb0:Below w.heap.size w W0:=by rw [hW0];exact(Below.refl _ _).alloc (Cp _) _
 have HB1:Hid (W0.heap[w.heap.size]?=some (.cells fc.toArray 28 (0,0))):=ab iE;have HXV:Hid (RxV W0 S [.int .i64 rk,.string ⟨rch.toArray⟩,.bool rng,.slice ra rrs.length rcp,.int .i64 rlo,.int .i64 rhi,.bool rlz,.slice rka rks.length rkc] X):=ab (hx1▸hc.rv.later hb0);have HFS:Hid (SlS W0 S fa 5 fs.length (lA fs)):=ab (hc.fv.keep (Kept.all hb0));have HXS:=ab hx;have HP:=ab hp;have HFL:=ab hfs;have HTM:Hid (sf ⟨X,fs,fd,al⟩=(mayB X&&oe fs)):=ab rfl;subst hfce;have HW0:=ab hW0;rw [HTM.out];clear hv hc hx hx1 hW0 hfs hp HTM;have HRM:=ab (qw S X _ W0 HP.out HXS.out HXV.out);cases hm:mayB X with
 | false =>
  rw [hm] at HRM;clear hm;go_enter Tryz.func19,Tryz.ntmps19
  go_upto_region 1 with fail
  rw [←HW0.out];clear HW0;go_wp2_with (first
   | (refine kF rfl 25 (.tmp 3) rfl w.heap.size 0 rfl [.int .i64 rk,.string ⟨rch.toArray⟩,.bool rng,.slice ra rrs.length rcp,.int .i64 rlo,.int .i64 rhi,.bool rlz,.slice rka rks.length rkc] _ (kJ (ds:=[.slice fa fs.length fcp,.bool fd,.bool al]) HB1.out) nb rfl iU ?_)
   | (go_at_call 36;refine HRM.out.mono ?_))
  exact cU
 | true =>
  rw [hm] at HRM;clear hm;go_enter Tryz.func19,Tryz.ntmps19
  go_upto_region 1 with fail
  rw [←HW0.out];clear HW0;go_wp2_with (first
   | (refine kF rfl 25 (.tmp 3) rfl w.heap.size 0 rfl [.int .i64 rk,.string ⟨rch.toArray⟩,.bool rng,.slice ra rrs.length rcp,.int .i64 rlo,.int .i64 rhi,.bool rlz,.slice rka rks.length rkc] _ (kJ (ds:=[.slice fa fs.length fcp,.bool fd,.bool al]) HB1.out) nb rfl iU ?_)
   | (go_at_call 36;refine HRM.out.mono ?_))
  first|rintro e w1 rfl hb1|rintro e w1 ⟨rfl,hb1⟩
  have hx1:=(hb1.block _ (jO HB1.out)).trans HB1.out;have z8:w1.cell? ⟨w.heap.size,8,none⟩=some (.slice fa fs.length fcp):=by rw [Cv hx1];rfl
  have HM:=ab (tF fa fs.length fcp fs w1 (HFS.out.keep (Kept.all hb1)).sl HFL.out);clear hx1;go_wp2_with (go_at_call 37;refine HM.out.mono ?_)
  exact dU
end Go.Proofs.YtjggmmaojklmpaaGreat
