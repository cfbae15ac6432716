/- walk of gimletlaw19.FormEach -/
import Derived.Test.YtbnkaecmgfolpaaGreatJb24
import Derived.Test.YtbnkaecmgfolpaaGreatRows
import Derived.ProofKit
import Derived.ShutString
set_option maxRecDepth 100000
set_option maxHeartbeats 4000000
namespace Go.Proofs.YtbnkaecmgfolpaaGreat
open Go.RowKit
def ab26:Str:=[97,98,99,100,101,102,103,104,105,106,107,108,109,110,111,112,113,114,115,116,117,118,119,120,121,122]
theorem pick26 {k:Nat} (h:k<26):∃d:UInt8,List.take 1 (List.drop k ab26)=[d]:=by
 have hl:k<ab26.length:=h;exact⟨ab26[k],by rw [List.drop_eq_getElem_cons hl,List.take_succ_cons,List.take_zero]⟩
theorem ab26_len:ab26.length=26:=rfl
def FeRel (n:Nat) (w:World) (v12 q:Value) (wr:World):Prop :=
 ∃(i:Nat) (rs:List Row),i≤n∧rs.length=i∧q=.int .i64 i∧Below w.heap.size w wr∧wr.ownsRow w.heap.size 58 2 v12 rs.length (gR rs)∧Hid (∀r∈rs,r.1.length≤1000000∧r.2.length≤1000000)
def EhRel (ng:Bool) (RW:List Row) (cs:List Str) (w8:World) (v27 q:Value) (wr:World):Prop :=
 ∃i:Nat,i≤cs.length∧v27=.bool ((cs.take i).any fun c=>hasS RW ng false c)∧q=.int .i64 i∧Below w8.heap.size w8 wr
theorem t6 (a b:List Row):gR (a++b)=gR a++gR b:=by simp [gR]
def UnP (rs:List Row) (w:World) (e:Ending) (w':World):Prop:=∃a' c',e=.returned (.slice a' (jb rs).length c')∧SlS w' (fun b=>w.heap.size≤b) a' 2 (jb rs).length (gR (jb rs))∧Below w.heap.size w w'
set_option maxRecDepth 100000 in
theorem pN (a0 a2:Option Addr) (c0 c2:Nat) (xs:List (Int × Int)) (ng:Bool) (fs:List Fm) (s t:Str) (w:World) (hx:Sl w w.heap.size a0 2 xs.length (kJ xs)) (hf:Sl w w.heap.size a2 5 fs.length (iV fs))
  (hsz:∀f∈fs,f.thn.length≤maxLen∧f.els.length≤maxLen) (hnf:fs.length≤maxLen) (h1:xs.length≤6) (h2:0≤jL fs 40) (h3:s.length≤30) (h4:t.length≤30) (h5:vQ t) (ht:t=[]) :
  Calls Tryz.prog 9 #[.slice a0 xs.length c0,.bool ng,.slice a2 fs.length c2,.string ⟨s.toArray⟩,.string ⟨t.toArray⟩] w fun e w'=>e=.returned (.bool true)∧Below w.heap.size w w':=by
 have hfs:=nQ fs 40 h2;have HX:=ab hx;have HF:=ab hf;have HFL:=ab (lu a2 fs.length c2 40 fs w hf hnf ez hsz);have g1:decide ((6:Int)<(xs.length:Int))=false:=xK eu;have g2:decide (jL fs 40<0)=false:=xK eu;have g3:decide ((30:Int)<(s.length:Int))=false:=xK eu;have g4:decide ((30:Int)<(t.length:Int))=false:=xK eu;have HIR:=ab (info_parts jl);clear hx hf hsz hnf;obtain⟨L,hL⟩:∃L,jL fs 40=L:=⟨_,rfl⟩;rw [hL] at HFL g2;clear hL;clear h2;have hlt:t.length=0:=by rw [ht];rfl
 have g5:decide ((0:Int)<(t.length:Int))=false:=xK eu;have g6:¬0<t.length:=eu;clear ht hlt;go_enter Tryz.func9,Tryz.ntmps9
 go_upto_region 3 with(go_at_call 21;refine HFL.out.mono ?_;rintro e w1 ⟨rfl,hb1⟩)
 have hbE:=hb1;clear g1 g2 g3 g4 g5 g6;exact ag
set_option maxRecDepth 100000 in
theorem pS (a0 a2:Option Addr) (c0 c2:Nat) (xs:List (Int × Int)) (ng:Bool) (fs:List Fm) (s t:Str) (w:World) (hx:Sl w w.heap.size a0 2 xs.length (kJ xs)) (hf:Sl w w.heap.size a2 5 fs.length (iV fs))
  (hsz:∀f∈fs,f.thn.length≤maxLen∧f.els.length≤maxLen) (hnf:fs.length≤maxLen) (h1:xs.length≤6) (h2:0≤jL fs 40) (h3:s.length≤30) (h4:t.length≤30) (h5:vQ t) (ht:t≠[]) :
  Calls Tryz.prog 9 #[.slice a0 xs.length c0,.bool ng,.slice a2 fs.length c2,.string ⟨s.toArray⟩,.string ⟨t.toArray⟩] w fun e w'=>e=.returned (.bool true)∧Below w.heap.size w w':=by
 have hfs:=nQ fs 40 h2;have HX:=ab hx;have HF:=ab hf;have HFL:=ab (lu a2 fs.length c2 40 fs w hf hnf ez hsz);have g1:decide ((6:Int)<(xs.length:Int))=false:=xK eu;have g2:decide (jL fs 40<0)=false:=xK eu;have g3:decide ((30:Int)<(s.length:Int))=false:=xK eu;have g4:decide ((30:Int)<(t.length:Int))=false:=xK eu;have HIR:=ab (info_parts jl);clear hx hf hsz hnf;obtain⟨L,hL⟩:∃L,jL fs 40=L:=⟨_,rfl⟩;rw [hL] at HFL g2;clear hL;clear h2;have g5:decide ((0:Int)<(t.length:Int))=true:=xJ (by have:0<t.length:=List.length_pos_iff.2 ht;omega);have g6:0<t.length:=List.length_pos_iff.2 ht;have HFI:=ab (fun w=>qV t w ht eu);have hpr:iW (fstS t)=true:=(oV ht).2 h5;have hfl:(fstS t).length≤30:=by unfold fstS;rw [xF];omega
 obtain⟨T1,hT1⟩:∃T,fstS t=T:=⟨_,rfl⟩;rw [hT1] at HFI hpr hfl;have HPR:=ab (fun w=>hpr▸jI T1 w eu);clear hT1 hpr ht;go_enter Tryz.func9,Tryz.ntmps9
 go_upto_region 3 with(first|(go_at_call 21;refine HFL.out.mono ?_;rintro e w1 ⟨rfl,hb1⟩)|(go_at_call 23;refine(HFI.out _).mono ?_;rintro e w2 ⟨rfl,rfl⟩)|(go_at_call 22;refine(HPR.out _).mono ?_;rintro e w3 ⟨rfl,rfl⟩))
 have hbE:=hb1;clear g1 g2 g3 g4 g5 g6 HFI HPR;exact ag
theorem pD (a0 a2:Option Addr) (c0 c2:Nat) (xs:List (Int × Int)) (ng:Bool) (fs:List Fm) (s t:Str) (w:World) (hx:Sl w w.heap.size a0 2 xs.length (kJ xs)) (hf:Sl w w.heap.size a2 5 fs.length (iV fs))
  (hsz:∀f∈fs,f.thn.length≤maxLen∧f.els.length≤maxLen) (hnf:fs.length≤maxLen) :
  Calls Tryz.prog 9 #[.slice a0 xs.length c0,.bool ng,.slice a2 fs.length c2,.string ⟨s.toArray⟩,.string ⟨t.toArray⟩] w fun e w'=>e=.returned (.bool true)∧Below w.heap.size w w':=by
 have HFL:=ab (lu a2 fs.length c2 40 fs w hf hnf ez hsz);by_cases h1:xs.length≤6
 ·by_cases h2:0≤jL fs 40
  ·by_cases h3:s.length≤30
   ·by_cases h4:t.length≤30
    ·by_cases h6:t=[]
     ·exact pN a0 a2 c0 c2 xs ng fs s t w hx hf hsz hnf h1 h2 h3 h4 (by rw [h6];trivial) h6
     ·by_cases h5:vQ t
      ·exact pS a0 a2 c0 c2 xs ng fs s t w hx hf hsz hnf h1 h2 h3 h4 h5 h6
      ·have g1:decide ((6:Int)<(xs.length:Int))=false:=xK eu
       have g2:decide (jL fs 40<0)=false:=xK eu;have g3:decide ((30:Int)<(s.length:Int))=false:=xK eu;have g4:decide ((30:Int)<(t.length:Int))=false:=xK eu;have g5:decide ((0:Int)<(t.length:Int))=true:=xJ (by have:0<t.length:=List.length_pos_iff.2 h6;omega);have g6:0<t.length:=List.length_pos_iff.2 h6;have HFI:=ab (fun w=>qV t w h6 eu);have hpr:iW (fstS t)=false:=by
        cases h:iW (fstS t) with
        | false=>rfl
        | true=>exact absurd ((oV h6).1 h) h5
       have hfl:(fstS t).length≤30:=by unfold fstS;rw [xF];omega
       obtain⟨T1,hT1⟩:∃T,fstS t=T:=⟨_,rfl⟩;rw [hT1] at HFI hpr hfl;have HPR:=ab (fun w=>hpr▸jI T1 w eu);obtain⟨L,hL⟩:∃L,jL fs 40=L:=⟨_,rfl⟩;rw [hL] at HFL g2;clear hL h2 hT1 hpr h6 h5 hx hf hsz;go_enter Tryz.func9,Tryz.ntmps9
       go_wp2_with (first|(go_at_call 21;refine HFL.out.mono ?_;rintro e w1 ⟨rfl,hb1⟩)|(go_at_call 23;refine(HFI.out _).mono ?_;rintro e w2 ⟨rfl,rfl⟩)|(go_at_call 22;refine(HPR.out _).mono ?_;rintro e w3 ⟨rfl,rfl⟩)|(go_at_call 11;refine(n6 _).mono ?_;rintro e w9 ⟨rfl,hb9⟩))
       go_ret
       exact⟨rfl,bel2 hb1 hb9⟩
    ·have g1:decide ((6:Int)<(xs.length:Int))=false:=xK eu
     have g2:decide (jL fs 40<0)=false:=xK eu;have g3:decide ((30:Int)<(s.length:Int))=false:=xK eu;have g4:decide ((30:Int)<(t.length:Int))=true:=xJ eu;exact ba
   ·have g1:decide ((6:Int)<(xs.length:Int))=false:=xK eu
    have g2:decide (jL fs 40<0)=false:=xK eu;have g3:decide ((30:Int)<(s.length:Int))=true:=xJ eu;exact ba
  ·have g1:decide ((6:Int)<(xs.length:Int))=false:=xK eu
   have g2:decide (jL fs 40<0)=true:=xJ eu;exact ba
 ·have g1:decide ((6:Int)<(xs.length:Int))=true:=xJ eu
  unfold maxLen at *;clear hx hf hsz;go_enter Tryz.func9,Tryz.ntmps9
  go_wp2_with (go_at_call 11;refine(n6 _).mono ?_;rintro e w9 ⟨rfl,hb9⟩)
  go_ret
  exact⟨rfl,hb9⟩
open Go.ChangeShapes Go.WideShapes Go.RowKit
section
variable {H:Type} {enc:TypeId × Value→H} {w:World} {base:Nat} {spare:Nat→Bool} {held:Bool}
theorem wJ {r:Reach} {b0:Nat} {v:Value} {d:DataW H} {ps:List MemPlace} (hval:Value.okWide Tryz.prog w r b0 26 v) (h:DataW.Trod enc Tryz.prog w 0 spare held 26 v d ps) :
  ∃(a:Option Addr) (cap:Nat) (xs:List Fm),v=.slice a xs.length cap∧xs.length≤maxLen∧(∀f∈xs,f.thn.length≤maxLen∧f.els.length≤maxLen)∧Sl w w.heap.size a 5 xs.length (iV xs):=by
 obtain⟨fuel,hf⟩:=h;rw [lR Tryz.underlying26 hval] at hf;obtain⟨a,cap,xs,h1,h2,h3,h4⟩:=rm Fm.cells (fun f=>f.thn.length≤maxLen∧f.els.length≤maxLen) Tryz.underlying26 (C:=5) eA ez hf (by
  intro n c y _ hc hy;obtain⟨ys,m,_,_,_,_,hfs⟩:=DataW.trod_struct wv hy;match c,hc with
  | [c0,c1,c2,c3,c4],_ =>
   have hF : Tryz.prog.fieldsOf 43 = #[{ name := "Kind", type := 3, offset := 0, embedded := false, tag := "", pkgPath := "", byteOffset := 0 }, { name := "N", type := 3, offset := 1, embedded := false, tag := "", pkgPath := "", byteOffset := 8 }, { name := "Case", type := 3, offset := 2, embedded := false, tag := "", pkgPath := "", byteOffset := 16 }, { name := "Then", type := 9, offset := 3, embedded := false, tag := "", pkgPath := "", byteOffset := 24 }, { name := "Else", type := 9, offset := 4, embedded := false, tag := "", pkgPath := "", byteOffset := 40 }] := by kernel_rfl
   rw [hF] at hfs;have k0:Tryz.prog.cellsOf 3=1:=eA;have k1:Tryz.prog.cellsOf 9=1:=eA;have f0 := hfs 0 { name := "Kind", type := 3, offset := 0, embedded := false, tag := "", pkgPath := "", byteOffset := 0 } rfl
   have f1 := hfs 1 { name := "N", type := 3, offset := 1, embedded := false, tag := "", pkgPath := "", byteOffset := 8 } rfl
   have f2 := hfs 2 { name := "Case", type := 3, offset := 2, embedded := false, tag := "", pkgPath := "", byteOffset := 16 } rfl
   have f3 := hfs 3 { name := "Then", type := 9, offset := 3, embedded := false, tag := "", pkgPath := "", byteOffset := 24 } rfl
   have f4 := hfs 4 { name := "Else", type := 9, offset := 4, embedded := false, tag := "", pkgPath := "", byteOffset := 40 } rfl
   rw [k0] at f0 f1 f2;rw [k1] at f3 f4;simp only [List.drop,List.take] at f0 f1 f2 f3 f4;have hys:ys.length=5:=by have h6:=‹ys.length=_›;rw [hF] at h6;exact h6
   rw [wW eu] at f0 f1 f2 f3 f4;obtain⟨n0,e0,_⟩:=DataW.trod_int Tryz.underlying3 f0;obtain⟨n1,e1,_⟩:=DataW.trod_int Tryz.underlying3 f1;obtain⟨n2,e2,_⟩:=DataW.trod_int Tryz.underlying3 f2;obtain⟨s3,e3,_,h3⟩:=DataW.trod_string Tryz.underlying9 f3;obtain⟨s4,e4,_,h4⟩:=DataW.trod_string Tryz.underlying9 f4;injection e0 with e0;injection e1 with e1;injection e2 with e2;injection e3 with e3;injection e4 with e4
   subst e0 e1 e2 e3 e4;exact⟨⟨n0,n1,n2,s3.data.toList,s4.data.toList⟩,by simp [Fm.cells],by simpa using h3,by simpa using h4⟩)
 injection h1 with h1
 exact⟨a,cap,xs,h1,h2,h3,h4⟩
end
open Go.RowKit Go.WideShapes Go.ChangeShapes
theorem own:ownKnob Tryz.prog.godebug=none:=by kernel_rfl
section
variable {H:Type} {enc:TypeId × Value→H} {P:Program}
theorem oR (hl:laidOutB P=true) {W W':World} (hb:Below W.heap.size W W'):∀{ts:List TypeId} {vs:List Value} {ds:List (DataW H)} {ps:List MemPlace},
  (∀t∈ts,P.readableRec t=true∧t<P.types.size)→DataW.TrodAll enc P W 0 (fun _=>true) true ts vs ds ps→(∀p∈ps,p.block<W.heap.size)→∀sp:Nat→Bool,(∀p∈ps,sp p.block=true) →
  DataW.TrodAll enc P W' 0 sp true ts vs ds ps
 | [],vs,ds,ps,_,h,_,sp,_=>by
  obtain⟨rfl,rfl,rfl⟩:=trodAll_nil h;exact trodAll_mk0
 | t::ts,vs,ds,ps,ht,h,hlt,sp,hsp=>by
  obtain⟨v,vs',d,ds',p,q,rfl,rfl,rfl,h1,h2⟩:=trodAll_cons h;obtain⟨r1,r2⟩:=ht t (xt ..);exact trodAll_cons_mk (WideElems.Trod_stays hl r1 r2 h1 (fun x hx=>hb.same (hlt x (List.mem_append_left _ hx))) (fun x hx=>hsp x (List.mem_append_left _ hx)))
   (oR hl hb (fun t hm=>ht t (xw _ hm)) h2 (fun x hx=>hlt x (List.mem_append_right _ hx)) sp (fun x hx=>hsp x (List.mem_append_right _ hx)))
theorem pu {f:Func} {s:ChangeSpec} {apart fresh handsOn again:Bool} {W W':World} {args:Array Value} {v:Value} {ds gs:List (DataW H)} {before pa pv:List MemPlace}
  (hW:DataW.Whole enc P f.params.toList s.vars apart W args.toList ds gs before)
  (hres:∀(b:Nat) (sp:Nat→Bool) (hd:Bool),DataW.TrodAll enc P W' b sp hd f.resultTypes.toList (v.resultList f.resultTypes.size) (s.fn H (ds++gs)).results [])
  (hargs:∀sp:Nat→Bool,(∀p∈before,sp p.block=true)→DataW.TrodAll enc P W' 0 sp true f.params.toList args.toList (s.fn H (ds++gs)).args pa)
  (hvars:∀sp:Nat→Bool,(∀p∈before,sp p.block=true)→DataW.TrodVars enc P W' sp s.vars (s.fn H (ds++gs)).vars pv)
  (hps:before=pa++pv) (hb:Below W.heap.size W W')
  (hok:∀(j:Nat) (t:TypeId) (r:Value),f.resultTypes[j]?=some t→(v.resultList f.resultTypes.size)[j]?=some r→Value.okWide P W' .any 0 t r) :
  s.post enc P f apart fresh handsOn again W args v W':=by
 have hlt:∀p∈before,p.block<W.heap.size:=fun p hp=>hW.lt p hp
 have hold:∀p∈before,(fun b=>decide (b<W.heap.size)) p.block=true:=fun p hp=>by simpa using hlt p hp
 refine⟨ds,gs,before,[],pa,pv,hW,hres _ _ _,hargs _ hold,hvars _ hold,World.keptBut_mono (fun p hp=>⟨hp,?_⟩) (hb.frame (·∈before)),fun _=>?_⟩
 ·rw [hps,xD] at hp
  exact Or.inr hp
 ·obtain⟨_,_,_,_,_,hz,hn⟩:=hW
  refine⟨hok,_,_,([]++pa)++pv,⟨[]++pa,pv,trodAll_append (hargs _ (fun _ _=>rfl)) (hres _ _ _),hvars _ (fun _ _=>rfl),rfl,?_,?_⟩,?_⟩
  ·intro b off hp
   have hin:MemPlace.cell b off∈before:=by rw [hps];simpa using hp
   rw [hb.frozen (hlt _ hin)];exact hz b off hin
  ·intro ha
   have:=hn ha
   rw [hps] at this;simpa using this
  ·intro p hp _
   rw [hps];simpa using hp
end
end Go.Proofs.YtbnkaecmgfolpaaGreat
