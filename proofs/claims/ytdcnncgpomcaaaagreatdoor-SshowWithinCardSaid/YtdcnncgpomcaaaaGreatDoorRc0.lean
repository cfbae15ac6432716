/- Closing steps that recur, each as a theorem whose argument is found by them. -/
import Derived.WalkLawsBesides
import Derived.WalkSpells
import Derived.BigQuiet
import Derived.Deep.DeepCutAuto
import Derived.Lib.Hide
import Derived.Deep.RegionLaw
set_option maxRecDepth 100000
namespace Go.Proofs.YtdcnncgpomcaaaaGreatDoor
open Go.RowKit
theorem ab {p:Prop} (h:p):RowKit.Hid p:=Lib.hid h
abbrev Jh:=@Bool.and_true
abbrev Ji:=@beq_iff_eq
abbrev Jj:=@decide_eq_true_eq
abbrev Jk:=@UInt8.toNat_inj
abbrev Jl:=@if_pos
abbrev Jm:=@List.eq_nil_of_length_eq_zero
abbrev Jn:=@List.getElem?_eq_getElem
abbrev Jo:=@if_neg
abbrev Jp:=@congrArg
abbrev Jq:=@List.takeWhile_append_dropWhile
abbrev Jr:=@List.length_cons
abbrev Js:=@Bool.or_eq_true
abbrev Jt:=@Nat.lt_of_lt_of_le
abbrev Ju:=@Nat.le_refl
abbrev Jv:=@Nat.le_trans
abbrev Jw:=@Lib.cell_of_heap
abbrev Jx:=@List.getElem?_eq_some_iff
abbrev Jy:=@Bool.and_eq_true
abbrev Jz:=@List.flatMap_cons
abbrev JA:=@List.length_append
abbrev JB:=@List.getElem?_append_right
abbrev JC:=@List.mem_cons
abbrev JD:=@List.getElem?_append_left
abbrev JE:=@List.mem_cons_self
abbrev JF:=@List.mem_cons_of_mem
abbrev JG:=@Bool.true_and
abbrev JH:=@List.mem_of_getElem?
abbrev JJ:=@decide_eq_false_iff_not
abbrev JK:=@List.not_mem_nil
abbrev JL:=@or_false
abbrev JM:=@bodyPost_ret
abbrev JN:=@List.length_take
abbrev JO:=@World.size_alloc
abbrev JP:=@beq_eq_false_iff_ne
abbrev JQ:=@List.foldl_cons
abbrev JR:=@decide_eq_true
abbrev JT:=@decide_eq_false
abbrev JU:=@List.length_drop
abbrev JV:=@List.nil_append
abbrev JW:=@List.cons_append
abbrev JX:=@List.mem_append
abbrev JY:=@List.mem_singleton
abbrev JZ:=@List.drop_zero
abbrev J0:=@List.length_nil
abbrev J1:=@Bool.false_eq_true
abbrev J2:=@List.singleton_append
abbrev J3:=@List.append_assoc
abbrev J4:=@Nat.add_assoc
abbrev J5:=@List.append_nil
abbrev J6:=@List.suffix_cons
abbrev J7:=@List.suffix_refl
abbrev J8:=@Nat.le_of_eq
abbrev J9:=@Bool.not_eq_true'
theorem gN {p:Prop} (h:p:=by omega):p:=h
theorem gO {p:Prop} (h:p:=by rw [hc1 _ _ (by first|(simp;done)|(simp;omega))];simp):p:=h
theorem gP {p:Prop} (h:p:=by first|omega|(simp;done)|(simp;omega)):p:=h
theorem gQ {p:Prop} (h:p:=by simpa using h):p:=h
theorem gR {p:Prop} (h:p:=by decide):p:=h
theorem gS {p:Prop} (h:p:=by first|(simp;done)|(simp;omega)):p:=h
theorem gT {p:Prop} (h:p:=by kernel_rfl):p:=h
theorem gU {p:Prop} (h:p:=by simp):p:=h
theorem gV {p:Prop} (h:p:=by simp;omega):p:=h
theorem gW {p:Prop} (h:p:=by simp [hd]):p:=h
theorem gX {p:Prop} (h:p:=by first|(simp;done)|(simp;omega)|omega):p:=h
theorem gY {p:Prop} (h:p:=by rw [ld,hcl]):p:=h
theorem gZ {p:Prop} (h:p:=by simp [World.setCell];omega):p:=h
theorem g7 {p:Prop} (h:p:=by rw [hW4];exact(heap_setCell_other _ _ _ _ (by show w.heap.size+1≠w.heap.size;omega)).trans (lN HB0.out hg03 (by omega))):p:=h
theorem g8 {p:Prop} (h:p:=by simp [results,Tryz.results129,go_sem,f0,f1,f2,f3,f4,f5,f6,f7]):p:=h
theorem ia {p:Prop} (h:p:=by first|omega|(simp;omega)):p:=h
theorem ib {p:Prop} (h:p:=by rw [hW0,Below.heap_alloc _ _ _ (by simp)];exact heap_alloc_new w _):p:=h
theorem ic {p:Prop} (h:p:=by first|omega|(simp only [JA,Jr,J0];omega)):p:=h
theorem ie {p:Prop} (h:p:=by simp [results,Tryz.results135,go_sem,f0,f1,f2,f3,f4,f5,f6,f7]):p:=h
theorem ig {p:Prop} (h:p:=by simp only [execOp,e];kernel_rfl):p:=h
theorem ii {p:Prop} (h:p:=by simp [Value.oneCell']):p:=h
theorem ij {p:Prop} (h:p:=by first|(simp;done)|omega):p:=h
theorem ik {p:Prop} (h:p:=by rw [hW5];exact(heap_setCell_other _ _ _ _ (by show w.heap.size≠b5;omega)).trans (lN HB4.out hg5 (by omega))):p:=h
theorem il {p:Prop} (h:p:=by rw [List.map_toArray];simp only [List.map_cons,List.map_nil,e]):p:=h
theorem io {p:Prop} (h:p:=by simp [results,Tryz.results134,go_sem,f0,f1,f2,f3,f4,f5,f6,f7]):p:=h
theorem ip {p:Prop} (h:p:=by simp [results,Tryz.results123,go_sem,f0,f1,f2,f3,f4,f5,f6,f7]):p:=h
theorem iq {p:Prop} (h:p:=by rw [Jw hbx1];rfl):p:=h
theorem it {p:Prop} (h:p:=by simpa using hd):p:=h
theorem iv {p:Prop} (h:p:=by rw [←HF.out,l6,Jo (by rintro⟨e1,e2⟩;first|(cases e1;done)|exact HNC.out e2),hdo]):p:=h
theorem iw {p:Prop} (h:p:=by simp [results,Tryz.results128,go_sem,f0,f1,f2,f3,f4,f5,f6,f7]):p:=h
theorem iy {p:Prop} (h:p:=by rw [hW0];exact heap_alloc_new w _):p:=h
theorem iz {p:Prop} (h:p:=by unfold Func.isWrapper;first|(rw [Jl (by decide +kernel)];kernel_rfl)|(rw [Jo (by decide +kernel)];exact⟨rfl,rfl⟩)):p:=h
theorem iB {p:Prop} (h:p:=by rw [Ge];rfl):p:=h
theorem iC {p:Prop} (h:p:=by rw [show ((i:Int)+1).toNat=i+1 by omega,Hr.out];exact hU):p:=h
theorem iD {p:Prop} (h:p:=by rw [ld];rfl):p:=h
theorem iE {p:Prop} (h:p:=by rw [←HF.out,hd];rfl):p:=h
theorem iF {p:Prop} (h:p:=by rw [hW6];exact(heap_setCell_other _ _ _ _ (by show w.heap.size+1≠w.heap.size;omega)).trans ((hg5.block _ (kT HB4.out) (by omega) (by omega)).trans HB4.out)):p:=h
theorem iG {p:Prop} (h:p:=by simp [results,Tryz.results126,go_sem,z0,z1,z2,z3,z4]):p:=h
theorem iH {p:Prop} (h:p:=by simp [hcl]):p:=h
theorem iI {p:Prop} (h:p:=by simp [results,Tryz.results108,go_sem,f0,f1,f2,f3,f4,f5,f6,f7]):p:=h
theorem iJ {p:Prop} (h:p:=by show w.heap.size+1≠w.heap.size;omega):p:=h
theorem iK {p:Prop} (h:p:=by simp [results,Tryz.results94,go_sem,z0,z1,z2,z3,z4,z5,z6,z7,z8,z9,z10]):p:=h
theorem iL {p:Prop} (h:p:=by rw [←hd];exact HF.out):p:=h
theorem iM {p:Prop} (h:p:=by rw [hW6];exact HXV5.out.keep (Kept.setLow _ (fun b hb=>by rintro rfl;exact HRS5.out.ng hb))):p:=h
theorem iO {p:Prop} (h:p:=by rw [hW9];exact HXD.out.keep ⟨by rw [nH];exact Ju _,fun b hb _=>nr _ (by rintro rfl;exact HRD.out.nm hb)⟩):p:=h
theorem iP {p:Prop} (h:p:=by rw [JP];omega):p:=h
theorem iQ {p:Prop} (h:p:=by simpa using HB1.out):p:=h
theorem iR {p:Prop} (h:p:=by rw [←HR.out];simp only [rg,ht]):p:=h
theorem iU {p:Prop} (h:p:=by rw [hW6];exact(heap_setCell_other _ _ _ _ (by show w.heap.size≠g;omega)).trans HBX5.out):p:=h
theorem iV {p:Prop} (h:p:=by first|rfl|simp):p:=h
theorem iW {p:Prop} (h:p:=by rw [hW6];exact HRS5.out.place (HRS5.out.pl.set hel) (lp (lF _ _) 1 _)):p:=h
theorem iX {p:Prop} (h:p:=by simp [results,Tryz.results133,go_sem,f0,f1,f2,f3,f4,f5,f6,f7]):p:=h
theorem iY {p:Prop} (h:p:=by simpa using hu):p:=h
theorem iZ {p:Prop} (h:p:=by rw [JA];omega):p:=h
theorem i6 {p:Prop} (h:p:=by rw [hW4,heap_setCell_same _ _ _ _ _ _ hx3];rfl):p:=h
theorem i7 {p:Prop} (h:p:=by rw [hW6,sD,oJ _ _ (by omega),mL (by omega),hbd.block _ (kT HB4.out)];exact HB4.out):p:=h
theorem i8 {p:Prop} (h:p:=by rw [Hr.out];have h:=HE.out;first|(rw [Jl (by decide)] at h;omega)|(rw [Jo (by decide)] at h;omega)):p:=h
theorem ja {p:Prop} (h:p:=by rintro⟨e1,e2⟩;first|(cases e1;done)|exact HNC.out e2):p:=h
theorem jb {p:Prop} (h:p:=by simp [Act.eval,Act.put]):p:=h
theorem jc {p:Prop} (h:p:=by simp [results,Tryz.results122,go_sem,f0,f1,f2,f3,f4,f5,f6,f7]):p:=h
theorem jd {p:Prop} (h:p:=by simp [results,Tryz.results121,go_sem,f0,f1,f2,f3,f4,f5,f6,f7]):p:=h
theorem je {p:Prop} (h:p:=by rw [hW6];exact(heap_setCell_other _ _ _ _ hb5g).trans HF5.out):p:=h
theorem jf {p:Prop} (h:p:=by rw [HR.out];rfl):p:=h
theorem jg {p:Prop} (h:p:=by rw [hW5];exact World.setRow_alloc_new _ _ _ _):p:=h
theorem jh {p:Prop} (h:p:=by rw [hW6,sD];exact((HG4.out.trans (Gr2.below hbd)).setsL (Ju _) _ 5).twice _ _):p:=h
theorem ji {p:Prop} (h:p:=by rw [HS.out,hbv];rfl):p:=h
theorem jj {p:Prop} (h:p:=by rw [Ji];omega):p:=h
theorem jk {p:Prop} (h:p:=by first|exact hbl3|exact hbl2):p:=h
theorem jl {p:Prop} (h:p:=by rw [←HF2.out,sI,Jo (by decide),Jo (by decide),J3];rfl):p:=h
theorem jm {p:Prop} (h:p:=by obtain⟨_,_,_,_,_,_,_,l⟩:=y;simp only [Sn.parts] at hy;simp only [Sn.kids];omega):p:=h
theorem jn {p:Prop} (h:p:=by congr 1;first|omega|(rw [wrap64_in _ (by omega)];split<;>omega)|(split<;>omega)):p:=h
theorem jo {p:Prop} (h:p:=by simp only [Rx.deepL];omega):p:=h
theorem jp {p:Prop} (h:p:=by rw [←hR];simp only [escM,hn,hbig,hpm]):p:=h
theorem jq {p:Prop} (h:p:=by rw [←HR.out,←HF2.out]):p:=h
theorem jr {p:Prop} (h:p:=by rw [←HS.out,hd,show s.drop (j+2)=r2 from Hkr.out];simp [rxSp,c92,d47]):p:=h
theorem js {p:Prop} (h:p:=by simp only [JA,Jr,J0];omega):p:=h
theorem ju {p:Prop} (h:p:=by rw [hW6,heap_setCell_same _ _ _ _ _ _ hx5];rfl):p:=h
theorem jv {p:Prop} (h:p:=by have:=Rx.parts_mem hy;omega):p:=h
theorem jw {p:Prop} (h:p:=by rw [hW3];exact World.setRow_alloc_new _ _ _ _):p:=h
theorem jx {p:Prop} (h:p:=by simpa using HBX.out):p:=h
theorem jy {p:Prop} (h:p:=by simp [results,Tryz.results133,go_sem,f0,f1,f2,f3,f4,f5,f6,f7,hlt9]):p:=h
theorem jz {p:Prop} (h:p:=by rw [List.map_toArray];simp only [List.map_cons,List.map_nil,e,e1]):p:=h
theorem jA {p:Prop} (h:p:=by simp [lI,sL,h,Rx.chr,Rx.neg,Rx.rows,Rx.lo,Rx.hi,Rx.lazy]):p:=h
theorem jB {p:Prop} (h:p:=by simp only [JA] at hl;omega):p:=h
theorem jC {p:Prop} (h:p:=by injection e with e;exact e.symm):p:=h
theorem jD {p:Prop} (h:p:=by rw [←HR.out];unfold uq;simp only [hpr]):p:=h
theorem jE {p:Prop} (h:p:=by rw [hc2 _ _ (by simp [World.setCell];omega)];simp [go_sem,z0]):p:=h
theorem jF {p:Prop} (h:p:=by rw [hc2 _ _ (by simp [World.setCell];omega)];simp [go_sem,z1]):p:=h
theorem jG {p:Prop} (h:p:=by rw [hc2 _ _ (by simp [World.setCell];omega)];simp [go_sem,z2]):p:=h
theorem jH {p:Prop} (h:p:=by rw [hc2 _ _ (by simp [World.setCell];omega)];simp [go_sem,z3]):p:=h
theorem jI {p:Prop} (h:p:=by rw [hc2 _ _ (by simp [World.setCell];omega)];simp [go_sem,z4]):p:=h
theorem jJ {p:Prop} (h:p:=by rw [hc2 _ _ (by simp [World.setCell];omega)];simp [go_sem,y0]):p:=h
theorem jK {p:Prop} (h:p:=by rw [hc2 _ _ (by simp [World.setCell];omega)];simp [go_sem,y1]):p:=h
theorem jL {p:Prop} (h:p:=by rw [hc2 _ _ (by simp [World.setCell];omega)];simp [go_sem,y2]):p:=h
theorem jM {p:Prop} (h:p:=by rw [hc2 _ _ (by simp [World.setCell];omega)];simp [go_sem,y3]):p:=h
theorem jN {p:Prop} (h:p:=by rw [hc2 _ _ (by simp [World.setCell];omega)];simp [go_sem,y4]):p:=h
theorem jO {p:Prop} (h:p:=by simp [results,Tryz.results116,go_sem,f0,f1,f2,f3,f4,f5,f6,f7]):p:=h
theorem jP {p:Prop} (h:p:=by simp [World.setCell]):p:=h
theorem jQ {p:Prop} (h:p:=by rw [←HF.out];simp only [lV,ht,hit,ht2,ht3,hit2,hlt];simp):p:=h
theorem jR {p:Prop} (h:p:=by rw [←hn];exact Bs c):p:=h
theorem jS {p:Prop} (h:p:=by rw [hW9];exact(nr _ (by omega)).trans HFD.out):p:=h
theorem jT {p:Prop} (h:p:=by rw [hW9];exact(nr _ (by omega)).trans HBD.out):p:=h
theorem jU {p:Prop} (h:p:=by simpa using hl):p:=h
theorem jV {p:Prop} (h:p:=by rw [show ((j:Int)+1).toNat=j+1 by omega,HJ.out];exact hV):p:=h
theorem jW {p:Prop} (h:p:=by rw [show ((i:Int)+1).toNat=i+1 by omega,Hr.out];exact hM):p:=h
theorem jX {p:Prop} (h:p:=by rw [show ((j:Int)+1).toNat=j+1 by omega,Hr.out];exact hP):p:=h
theorem jY {p:Prop} (h:p:=by rw [←HR.out];simp only [hat]):p:=h
theorem jZ {p:Prop} (h:p:=by simp [results,Tryz.results119,go_sem]):p:=h
theorem j0 {p:Prop} (h:p:=by have:=mX hs;omega):p:=h
theorem j7 {p:Prop} (h:p:=by simpa using Array.mem_of_getElem? ht):p:=h
theorem j8 {p:Prop} (h:p:=by have:=mX q;omega):p:=h
theorem j9 {p:Prop} (h:p:=by simp [results,Tryz.results126,go_sem,x0,x1,x2,x3,x4]):p:=h
theorem ke {p:Prop} (h:p:=by simp [results,Tryz.results119,go_sem,z0,z1,z2,z3,z4]):p:=h
theorem kg {p:Prop} (h:p:=by rw [deepL_app];simp only [Rx.deepL,wO];omega):p:=h
theorem kh {p:Prop} (h:p:=by show w.heap.size≤b5;omega):p:=h
theorem ki {p:Prop} (h:p:=by show w.heap.size≠b5;omega):p:=h
theorem kj {p:Prop} (h:p:=by have:=hb1.size;simp at this;omega):p:=h
theorem km {p:Prop} (h:p:=by have:=HTF.out;simp;omega):p:=h
theorem ko {p:Prop} (h:p:=by have:=h1.length_le;omega):p:=h
theorem kp {p:Prop} (h:p:=by rw [HNN.out,nameS_M,hna]):p:=h
theorem kq {p:Prop} (h:p:=by rw [←HR.out];simp only [hpr,ht]):p:=h
theorem ku {p:Prop} (h:p:=by rw [hFB];exact(app18 hcl _ _).2):p:=h
theorem kw {p:Prop} (h:p:=by rw [HEB.out,HH.out];rfl):p:=h
theorem kx {p:Prop} (h:p:=by simpa using hgB):p:=h
theorem ky {p:Prop} (h:p:=by rw [oT,HFC.out]):p:=h
theorem kz {p:Prop} (h:p:=by rw [oT,HFL.out]):p:=h
theorem kA {p:Prop} (h:p:=by rw [nC,Nat.zero_add]):p:=h
theorem kB {p:Prop} (h:p:=by rw [HE.out,hU]):p:=h
theorem kC {p:Prop} (h:p:=by rw [sS];exact hown9):p:=h
theorem kD {p:Prop} (h:p:=by unfold nD;rw [hnu]):p:=h
theorem kE {p:Prop} (h:p:=by decide +kernel):p:=h
theorem kF {p:Prop} (h:p:=by rw [JO];omega):p:=h
theorem kG {p:Prop} (h:p:=by rw [HFB.out] at hf;exact hf):p:=h
theorem kH {p:Prop} (h:p:=by rw [HE5.out,hfl]):p:=h
theorem kI {p:Prop} (h:p:=by rw [hL];omega):p:=h
theorem kJ {p:Prop} (h:p:=by show w.heap.size≠g;omega):p:=h
theorem kL {p:Prop} (h:p:=by simpa using hb):p:=h
theorem kM {p:Prop} (h:p:=by rw [←HR.out,hres]):p:=h
theorem kN {p:Prop} (h:p:=by simpa using e):p:=h
theorem kO {p:Prop} (h:p:=by rw [←HF.out,hd]):p:=h
theorem kP {p:Prop} (h:p:=by go_simp):p:=h
theorem kQ {p:Prop} (h:p:=by rfl):p:=h
theorem ae {p:Prop} (h:p:=by
 obtain⟨k,rfl⟩:∃k',k=k'+1:=⟨k-1,by omega⟩;obtain⟨H,hH⟩:∃H,(i+j) / 2=H:=⟨_,rfl⟩;have hH2:((i:Int)+j) / 2=(H:Int):=gN;have hHb:i≤H∧H<j:=gN;obtain⟨K,hK⟩:∃K,M+m-1-H=K:=⟨_,rfl⟩;have hK2:(M:Int)+m-1-H=(K:Int):=gN;have hKN:K<N:=gN;obtain⟨x,hx⟩:∃x,rs[K]?=some x:=⟨_,Jn gN⟩;obtain⟨y,hy⟩:∃y,rs[H]?=some y:=⟨_,Jn gN⟩;obtain⟨c1,c2⟩:=hro.at_ hx;obtain⟨c3,c4⟩:=hro.at_ hy;obtain⟨x1,x2⟩:=x;obtain⟨y1,y2⟩:=y;obtain⟨cv,hcv⟩:∃cv,cmpR (x1,x2) (y1,y2)=cv:=⟨_,rfl⟩;have HCV:Hid (∀w:World,Calls Tryz.prog 144 #[.agg #[.string ⟨(x1).toArray⟩,.string ⟨(x2).toArray⟩],.agg #[.string ⟨(y1).toArray⟩,.string ⟨(y2).toArray⟩]] w fun e w'=>e=.returned (.int .i64 cv)∧Below w.heap.size w w'):=ab (fun w=>by
  rw [←hcv];exact vj (x1,x2) (y1,y2) w)
 have d1:∀x:ExtOf wr,x.val.cell? ⟨g,(K)*2,none⟩=some (.string ⟨(x1).toArray⟩):=ExtOf.cell c1;have d2:∀x:ExtOf wr,x.val.cell? ⟨g,(K)*2+1,none⟩=some (.string ⟨(x2).toArray⟩):=ExtOf.cell c2;have d3:∀x:ExtOf wr,x.val.cell? ⟨g,(H)*2,none⟩=some (.string ⟨(y1).toArray⟩):=ExtOf.cell c3;have d4:∀x:ExtOf wr,x.val.cell? ⟨g,(H)*2+1,none⟩=some (.string ⟨(y2).toArray⟩):=ExtOf.cell c4;have HX:=ab hx;have HY:=ab hy;have HROJ:=ab hro;clear hx hy c1 c2 c3 c4;have HF2:Hid ((if cv<0 then bs (fun c=>!ltAt rs (M+m-1-c) c) k i H else bs (fun c=>!ltAt rs (M+m-1-c) c) k (H+1) j)=T):=ab (by
  have hp:(!ltAt rs (M+m-1-H) H)=!decide (cv<0):=by rw [hK,zA HX.out HY.out,hcv]
  rw [←HF.out];simp only [bs,hlt,if_true,hH,hp];by_cases hc:cv<0<;>simp [hc])
 clear hcv hH hK HF hro;go_wp2
 refine kZ gT gT ?_;repeat (go_big_quiet_step ((go_at_call 144;exact lW (HCV.out _))))
 refine wpQuiet_nil ?_;rintro _ ⟨xq,rfl⟩;have hrq:RO xq.val B g cap rs:=lh HROJ.out xq.ext;have hgq:=pA hg xq.ext;clear d1 d2 d3 d4;by_cases hc0:cv<0
 ·have hc0':decide (cv<0)=true:=JR hc0
  exact gM
 ·have hc0':decide (cv<0)=false:=JT hc0
  exact gL):p:=h
theorem ag {p:Prop} (h:p:=by
 have hBd:Below wa.heap.size wa wa.drew:=(Below.refl _ _).drew;have HOA:=ab (hoa.later hBd);have HTA:=ab (lh hta hBd);have HRA:=ab (hra.later hBd);have HGA:=ab (hga.trans (Gr2.below hBd));have hzA:w.heap.size≤wa.drew.heap.size:=hga.size;have hsl:=hra.pl.2.2;clear hba hra hoa hta hga hBd;go_wp2
 refine mn 20 gT gT (fun A0 W0 L a w'=>R8I true S1 g m j s w (lO o t) v6 v7 A0 W0 L a w') ?_;intro A0 HA;have hsz:A0.tmps.size=70:=by rw [HA.out];rfl
 have hnd:[51,52,53,54,55,56,57,58,59,60,61,62,63,64,65,66,67,68,69,4].Nodup:=gR;have hbd:∀d∈[51,52,53,54,55,56,57,58,59,60,61,62,63,64,65,66,67,68,69,4],d<A0.tmps.size:=by rw [hsz];decide
 have e0:A0.tmps[0]?=some (.pointer (some ⟨g,0,none⟩)):=by rw [HA.out];rfl
 have e1:A0.tmps[1]?=some (.bool true):=by rw [HA.out];rfl
 have e6:A0.tmps[6]?=some v6:=by rw [HA.out];rfl
 have e7:A0.tmps[7]?=some v7:=by rw [HA.out];rfl
 refine⟨?_,?_,?_⟩
 ·obtain⟨V,hV⟩:=nT A0 [51,52,53,54,55,56,57,58,59,60,61,62,63,64,65,66,67,68,69,4]
  exact gJ
 ·refine⟨?_,?_,?_,?_,?_,?_,?_,?_,?_,?_,?_,?_,?_,?_,?_,?_,?_,?_,?_,?_,trivial⟩
  ·skip
   exact fw
  ·skip
   exact fx
  ·skip
   exact fg
  ·skip
   exact fy
  ·skip
   intro L a w' hL hd hI;obtain⟨V,hf,hO,h25,h19⟩:=hI;simp [lm,Region.binds] at hd
   have e:=(lU ((hf.ins hnd hbd 3 rfl).trans (Jp some (hO.vs 3 gW))));refine lR (lg rfl) (w':=w') (v:=.bool (!true)) ig ?_;exact fQ
  ·skip
   exact fq
  ·skip
   intro L a w' hL hd hI;obtain⟨V,hf,hO,h25,h19⟩:=hI;simp [lm,Region.binds] at hd
   have e:=lU ((hf.out (t:=0) gR).trans e0);refine lR (mc rfl (nQ rfl ((hf.ins hnd hbd 5 rfl).trans (Jp some (hO.vs 5 gW))))) (nY (.inl rfl)) ?_;rw [e];exact⟨_,hf.put hnd hbd 6 rfl _,hO.pure 6 gR (fun _=>rfl),(fun h=>by simpa using h25 gQ),(fun h=>⟨by simpa using (h19 gQ).1,(h19 gQ).2⟩)⟩
  ·skip
   intro L a w' hL hd hI;obtain⟨V,hf,hO,h25,h19⟩:=hI;simp [lm,Region.binds] at hd
   refine lR (mc rfl (nQ rfl ((hf.ins hnd hbd 5 rfl).trans (Jp some (hO.vs 5 gW))))) (IQ rfl (lU ((hf.ins hnd hbd 6 rfl).trans (Jp some (hO.vs 6 gW rfl))))) ?_;exact⟨_,hf.put hnd hbd 7 rfl _,hO.pure 7 gR (fun _=>rfl),(fun h=>by simpa using h25 gQ),(fun h=>⟨by simpa using (h19 gQ).1,(h19 gQ).2⟩)⟩
  ·skip
   intro L a w' hL hd hI;obtain⟨V,hf,hO,h25,h19⟩:=hI;simp [lm,Region.binds] at hd
   have e:=(lU ((hf.ins hnd hbd 7 rfl).trans (Jp some (hO.vs 7 gW rfl))));refine lR (mc rfl (nQ rfl ((hf.ins hnd hbd 5 rfl).trans (Jp some (hO.vs 5 gW))))) (v:=.pointer (some ⟨g,0,none⟩)) (w':=w') ig ?_;exact⟨_,hf.put hnd hbd 8 rfl _,hO.pure 8 gR (fun _=>rfl),(fun h=>by simpa using h25 gQ),(fun h=>⟨by simpa using (h19 gQ).1,(h19 gQ).2⟩)⟩
  ·skip
   intro L a w' hL hd hI;obtain⟨V,hf,hO,h25,h19⟩:=hI;simp [lm,Region.binds] at hd
   have e:=(lU ((hf.ins hnd hbd 8 rfl).trans (Jp some (hO.vs 8 gW rfl))));refine lR (mc rfl (nQ rfl ((hf.ins hnd hbd 5 rfl).trans (Jp some (hO.vs 5 gW))))) (v:=.pointer (some ⟨g,1,none⟩)) (w':=w') ig ?_;exact⟨_,hf.put hnd hbd 9 rfl _,hO.pure 9 gR (fun _=>rfl),(fun h=>by simpa using h25 gQ),(fun h=>⟨by simpa using (h19 gQ).1,(h19 gQ).2⟩)⟩
  ·skip
   intro L a w' hL hd hI;obtain⟨V,hf,hO,h25,h19⟩:=hI;simp [lm,Region.binds] at hd
   have e:=((hf.ins hnd hbd 9 rfl).trans (Jp some (hO.vs 9 gW rfl)));obtain⟨_,_,_,_,hrr,_⟩:=hO.h1 (h25 gW);refine lR (mc rfl (nQ rfl ((hf.ins hnd hbd 5 rfl).trans (Jp some (hO.vs 5 gW))))) (qG rfl e (ld_int hrr.pl.c1)) ?_;exact⟨_,hf.put hnd hbd 10 rfl _,hO.pure 10 gR (fun _=>rfl),(fun h=>by simpa using h25 gQ),(fun h=>⟨by simpa using (h19 gQ).1,(h19 gQ).2⟩)⟩
  ·skip
   intro L a w' hL hd hI;obtain⟨V,hf,hO,h25,h19⟩:=hI;simp [lm,Region.binds] at hd
   have e:=lU ((hf.out (t:=0) gR).trans e0);refine lR (mc rfl (nQ rfl ((hf.ins hnd hbd 5 rfl).trans (Jp some (hO.vs 5 gW))))) (nY (.inl rfl)) ?_;rw [e];exact⟨_,hf.put hnd hbd 11 rfl _,hO.pure 11 gR (fun _=>rfl),(fun h=>by simpa using h25 gQ),(fun h=>⟨by simpa using (h19 gQ).1,(h19 gQ).2⟩)⟩
  ·skip
   intro L a w' hL hd hI;obtain⟨V,hf,hO,h25,h19⟩:=hI;simp [lm,Region.binds] at hd
   refine lR (mc rfl (nQ rfl ((hf.ins hnd hbd 5 rfl).trans (Jp some (hO.vs 5 gW))))) (IQ rfl (lU ((hf.ins hnd hbd 11 rfl).trans (Jp some (hO.vs 11 gW rfl))))) ?_;exact⟨_,hf.put hnd hbd 12 rfl _,hO.pure 12 gR (fun _=>rfl),(fun h=>by simpa using h25 gQ),(fun h=>⟨by simpa using (h19 gQ).1,(h19 gQ).2⟩)⟩
  ·skip
   intro L a w' hL hd hI;obtain⟨V,hf,hO,h25,h19⟩:=hI;simp [lm,Region.binds] at hd
   have e:=(lU ((hf.ins hnd hbd 12 rfl).trans (Jp some (hO.vs 12 gW rfl))));refine lR (mc rfl (nQ rfl ((hf.ins hnd hbd 5 rfl).trans (Jp some (hO.vs 5 gW))))) (v:=.pointer (some ⟨g,0,none⟩)) (w':=w') ig ?_;exact⟨_,hf.put hnd hbd 13 rfl _,hO.pure 13 gR (fun _=>rfl),(fun h=>by simpa using h25 gQ),(fun h=>⟨by simpa using (h19 gQ).1,(h19 gQ).2⟩)⟩
  ·skip
   intro L a w' hL hd hI;obtain⟨V,hf,hO,h25,h19⟩:=hI;simp [lm,Region.binds] at hd
   have e:=(lU ((hf.ins hnd hbd 13 rfl).trans (Jp some (hO.vs 13 gW rfl))));refine lR (mc rfl (nQ rfl ((hf.ins hnd hbd 5 rfl).trans (Jp some (hO.vs 5 gW))))) (v:=.pointer (some ⟨g,0,none⟩)) (w':=w') ig ?_;exact⟨_,hf.put hnd hbd 14 rfl _,hO.pure 14 gR (fun _=>rfl),(fun h=>by simpa using h25 gQ),(fun h=>⟨by simpa using (h19 gQ).1,(h19 gQ).2⟩)⟩
  ·skip
   intro L a w' hL hd hI;obtain⟨V,hf,hO,h25,h19⟩:=hI;simp [lm,Region.binds] at hd
   have e:=((hf.ins hnd hbd 14 rfl).trans (Jp some (hO.vs 14 gW rfl)));obtain⟨_,_,_,_,hrr,_⟩:=hO.h1 (h25 gW);refine lR (mc rfl (nQ rfl ((hf.ins hnd hbd 5 rfl).trans (Jp some (hO.vs 5 gW))))) (qG rfl e (ld_str hrr.pl.c0)) ?_;exact⟨_,hf.put hnd hbd 15 rfl _,hO.pure 15 gR (fun _=>rfl),(fun h=>by simpa using h25 gQ),(fun h=>⟨by simpa using (h19 gQ).1,(h19 gQ).2⟩)⟩
  ·skip
   intro L a w' hL hd hI;obtain⟨V,hf,hO,h25,h19⟩:=hI;simp [lm,Region.binds] at hd
   have e:=((hf.ins hnd hbd 15 rfl).trans (Jp some (hO.vs 15 gW rfl)));refine lR (mc rfl (nQ rfl ((hf.ins hnd hbd 5 rfl).trans (Jp some (hO.vs 5 gW))))) (v:=.int .i64 (s.length:Int)) (w':=w') (ex_len rfl e hsl) ?_;exact⟨_,hf.put hnd hbd 16 rfl _,hO.pure 16 gR (fun _=>rfl),(fun h=>by simpa using h25 gQ),(fun h=>⟨by simpa using (h19 gQ).1,(h19 gQ).2⟩)⟩
  ·skip
   intro L a w' hL hd hI;obtain⟨V,hf,hO,h25,h19⟩:=hI;simp [lm,Region.binds] at hd
   have e:=((hf.ins hnd hbd 10 rfl).trans (Jp some (hO.vs 10 gW rfl)));have e2:=((hf.ins hnd hbd 16 rfl).trans (Jp some (hO.vs 16 gW rfl)));refine lR (mc rfl (nQ rfl ((hf.ins hnd hbd 5 rfl).trans (Jp some (hO.vs 5 gW))))) (v:=.bool (decide (j<s.length))) (w':=w') (ex_lss rfl e e2) ?_;exact⟨_,hf.put hnd hbd 17 rfl _,hO.pure 17 gR (fun _=>rfl),(fun h=>by simpa using h25 gQ),(fun h=>⟨by simpa using (h19 gQ).1,(h19 gQ).2⟩)⟩
  ·skip
   intro L a w' hL hd hI;obtain⟨V,hf,hO,h25,h19⟩:=hI;simp [lm,Region.binds] at hd
   have e:=(lU ((hf.ins hnd hbd 5 rfl).trans (Jp some (hO.vs 5 gW))));have e2:=(lU ((hf.ins hnd hbd 17 rfl).trans (Jp some (hO.vs 17 gW rfl))));refine lR (lg rfl) (zd rfl e) ?_;rw [Jo gR,e2];exact fP
  ·skip
   exact fC
 ·intro L a w' hL hI
  obtain⟨V,hf,hO,h25,h19⟩:=hI;obtain⟨a8,c8,hv2,hG8,hR8,ho8⟩:=hO.h1 (hL 2 gR);have hv18:V 18=.bool (!true||decide (j<s.length)):=hO.vs 18 (hL 18 gR);have hv19:=(h19 (hL 19 gR)).2;rw [hv2] at hv19;have ha:=hf.eq;have hA:=HA.out;subst ha;subst hA;simp only [mW,hv2,hv18,hv19,List.drop_succ_cons,JZ];clear e0 e1 e6 e7 hsz hbd hf HA hO h25 h19;go_wp2
  go_ret2
  exact PartsPost.mk' (o':=lO o t) (rest:=s.drop j) HX.out hG8 rfl rfl HOK.out hR8 HS1.out HS2.out ho8 hgB rfl):p:=h
theorem ah {p:Prop} (h:p:=by
 by_cases q0:0≤n
 ·have Q0:=ab q0
  have g0:decide (0≤n)=true:=JR q0;by_cases q9:n≤9999
  ·have Q9:=ab q9
   have g9:decide (n≤9999)=true:=JR q9;clear q9;go_wp2_with fail
   go_meet
   exact⟨Jp Value.bool (HNB.out.symm.trans (JR ⟨Q0.out,Q9.out⟩)).symm,rfl⟩
  ·have Q9:=ab q9
   have g9:decide (n≤9999)=false:=JT q9;clear q9;go_wp2_with fail
   go_meet
   exact⟨Jp Value.bool (HNB.out.symm.trans (JT (fun h=>by have h1:=Q9.out;have h2:=h.2;omega))).symm,rfl⟩
 ·have Q0:=ab q0
  have g0:decide (0≤n)=false:=JT q0;clear q0;go_wp2_with fail
  go_meet
  exact⟨Jp Value.bool (HNB.out.symm.trans (JT (fun h=>by have h1:=Q0.out;have h2:=h.1;omega))).symm,rfl⟩):p:=h
theorem ai {p:Prop} (h:p:=by
 subst hnm2;cases hlt:Op.bytesLess t c with
 | true =>
  have HF2:Hid (none=R0):=ab jQ;have HR2:Hid (Except.error 10=R):=ab jq;clear HR;have HR:=HR2;clear HF ht hit hrd hok ht2 ht3 hit2 h93;go_wp2_with (go_at_call 137;refine(lQ _ HRD.out HT.out gU).mono ?_)
  rintro e w3 ⟨rfl,hrd3,hq3⟩;have hgr3:=kR hg hq3;have hown3:=ly HOWN.out hq3 gN;have HRD3:=ab hrd3;clear hrd3 hq3;go_wp2_with (go_at_call 138;refine(nw _ HRD3.out).mono ?_)
  rintro e w4 hq;have hq4:=hq.1;have hqe:=hq.2;rw [HIT.out] at hqe;obtain⟨hrd4,hqe⟩:=hqe;rcases hqe with⟨_,rfl⟩|⟨q,_⟩
  case inr=>exact absurd rfl q
  have hgr4:=kR hgr3 hq4;have hown4:=ly hown3 hq4 gN;have hlt4:=hown4.lt;obtain⟨va,vc,rfl⟩:=lD hown4;have hz4:=hgr4.size;obtain⟨w5,hw5⟩:∃w5,w5=w4.alloc (.cells #[.string ⟨(c).toArray⟩,.string ⟨(c).toArray⟩] 93):=⟨_,rfl⟩;obtain⟨hb5,hz5e,hbr5⟩:=lY w4 hw5;have hz5:w4.heap.size+1≤w5.heap.size:=gN;have HOWN5:=ab (lh hown4 hb5);have HRD5:=ab (hrd4.later hb5);have HBR5:=ab hbr5;have hgr5:=kR hgr4 (kS hb5 (some g));clear hq hq4 hrd4 hown3 hown4 hz5e hbr5 HRD3;obtain⟨ir,hir⟩:=info_parts oM;go_upto_region 10 with fail
  rw [←hw5];clear hw5;obtain⟨lb,lo,lk,li,ln,l0,l1,l2,l3,l4⟩:=HRD5.out.look1;have HSEE:Hid (∀x:ExtOf w5,Calls Tryz.prog 117 #[.pointer (some ⟨g,0,none⟩)] x.val fun e w'=>e=.returned (.string ⟨(([45]:Str)).toArray⟩)∧Below x.val.heap.size x.val w'):=ab fun x=>(l8 _ (HRD5.out.later x.ext)).mono fun _ _ ⟨h1,h2⟩=>⟨by rw [h1];rfl,h2.below _⟩
  have d0:∀x:ExtOf w5,x.val.cell? ⟨g,0,none⟩=some (.slice (some ⟨lb,lo,none⟩) ln lk):=ExtOf.cell l0;have d1:∀x:ExtOf w5,x.val.cell? ⟨g,1,none⟩=some (.int .i64 li):=ExtOf.cell l1;have d2:∀x:ExtOf w5,x.val.cell? ⟨lb,lo+(li+1),none⟩=some (.string ⟨(c3).toArray⟩):=ExtOf.cell l4;have gg:decide (ln≤li+1)=false:=by simp;omega
  have gg2:decide ((ln:Int)≤(li:Int)+1)=false:=by simp;omega
  have gn:((li:Int)+1).toNat=li+1:=gN;have gn0:(0:Int)≤(li:Int)+1:=gN;have gn1:(li:Int)+1<(ln:Int):=gN;have gw:IntKind.i64.wrap ((li:Int)+1)=(li:Int)+1:=IntWalk.i64_in _ gN;clear l0 l1 l4;refine kZ gT gT ?_;repeat (go_big_quiet_step ((go_at_call 117;exact lW (HSEE.out _))))
  refine wpQuiet_nil ?_;rintro _ ⟨xq,rfl⟩;clear d0 d1 d2 gg gg2 gn gn0 gn1 gw;have hbyq:=(xq.ext.block _ (kT (kW HBY2.out hgr5 gN))).trans (kW HBY2.out hgr5 gN);have hrowq:=(xq.ext.block _ (kT HBR5.out)).trans HBR5.out;have hownq:=lh HOWN5.out xq.ext;have hrdq:=HRD5.out.later xq.ext;have hgrq:=kR hgr5 (kS xq.ext (some g));generalize xq.val=wq at *
  clear HSEE;obtain⟨i,hi9,c1,hf,hr6⟩:=hrdq.step;have HRD6:=ab hr6;have hgr6:=lp hgrq 1 (.int .i64 ((i:Int)+1));have HBYQ:=ab (lK hbyq (a:=⟨g,1,none⟩) gP (.int .i64 ((i:Int)+1)));have HROWQ:=ab (lK hrowq (a:=⟨g,1,none⟩) gP (.int .i64 ((i:Int)+1)));have HOWNQ:=ab (qm hownq (a:=⟨g,1,none⟩) gP (.int .i64 ((i:Int)+1)));clear hrdq hr6 hbyq hrowq hownq hgrq;go_wp2_with (go_at_call 138;refine(nw _ HRD6.out).mono ?_)
  rintro e w7 hq;have hq7:=hq.1;have hqe:=hq.2;rw [HIT2.out] at hqe;have hgr7:=kR hgr6 hq7;have hgw7:=kR hg2 hgr7;have hby7:=kW HBYQ.out hq7 gN;have hrow7:=kW HROWQ.out hq7 gN;have hown7:=ly HOWNQ.out hq7 gN;obtain⟨f0,f1,f2,f3,f4,f5,f6,f7,f8⟩:=kY (c:=[]) hby7;obtain⟨hrd7,hqe⟩:=hqe;rcases hqe with⟨_,rfl⟩|⟨q,_⟩
  case inr=>exact absurd rfl q
  have HRD9:=ab hrd7;clear hq hq7 hby7 hrow7 hown7 hrd7;go_wp2
  refine JM (v:=.tuple #[.agg #[.int .i64 0,.string ⟨([]).toArray⟩,.bool false,.slice none 0 0,.int .i64 0,.int .i64 0,.bool false,.slice none 0 0],.int .i64 10]) io rfl ?_;refine⟨?_,?_⟩
  ·iterate 8 (refine lr ?_ gP _)
   exact hgw7
  ·rw [←HR.out]
   exact fj
 | false =>
  have HF2:Hid (lV n (rows++[(c,t)]) r4=R0):=ab jQ;clear HF ht hit hrd hok ht2 ht3 hit2 h93;go_wp2_with (go_at_call 137;refine(lQ _ HRD.out HT.out gU).mono ?_)
  rintro e w3 ⟨rfl,hrd3,hq3⟩;have hgr3:=kR hg hq3;have hown3:=ly HOWN.out hq3 gN;have HRD3:=ab hrd3;clear hrd3 hq3;go_wp2_with (go_at_call 138;refine(nw _ HRD3.out).mono ?_)
  rintro e w4 hq;have hq4:=hq.1;have hqe:=hq.2;rw [HIT.out] at hqe;obtain⟨hrd4,hqe⟩:=hqe;rcases hqe with⟨_,rfl⟩|⟨q,_⟩
  case inr=>exact absurd rfl q
  have hgr4:=kR hgr3 hq4;have hown4:=ly hown3 hq4 gN;have hlt4:=hown4.lt;obtain⟨va,vc,rfl⟩:=lD hown4;have hz4:=hgr4.size;obtain⟨w5,hw5⟩:∃w5,w5=w4.alloc (.cells #[.string ⟨(c).toArray⟩,.string ⟨(c).toArray⟩] 93):=⟨_,rfl⟩;obtain⟨hb5,hz5e,hbr5⟩:=lY w4 hw5;have hz5:w4.heap.size+1≤w5.heap.size:=gN;have HOWN5:=ab (lh hown4 hb5);have HRD5:=ab (hrd4.later hb5);have HBR5:=ab hbr5;have hgr5:=kR hgr4 (kS hb5 (some g));clear hq hq4 hrd4 hown3 hown4 hz5e hbr5 HRD3;obtain⟨ir,hir⟩:=info_parts oM;go_upto_region 10 with fail
  rw [←hw5];clear hw5;obtain⟨lb,lo,lk,li,ln,l0,l1,l2,l3,l4⟩:=HRD5.out.look1;have HSEE:Hid (∀x:ExtOf w5,Calls Tryz.prog 117 #[.pointer (some ⟨g,0,none⟩)] x.val fun e w'=>e=.returned (.string ⟨(([45]:Str)).toArray⟩)∧Below x.val.heap.size x.val w'):=ab fun x=>(l8 _ (HRD5.out.later x.ext)).mono fun _ _ ⟨h1,h2⟩=>⟨by rw [h1];rfl,h2.below _⟩
  have d0:∀x:ExtOf w5,x.val.cell? ⟨g,0,none⟩=some (.slice (some ⟨lb,lo,none⟩) ln lk):=ExtOf.cell l0;have d1:∀x:ExtOf w5,x.val.cell? ⟨g,1,none⟩=some (.int .i64 li):=ExtOf.cell l1;have d2:∀x:ExtOf w5,x.val.cell? ⟨lb,lo+(li+1),none⟩=some (.string ⟨(c3).toArray⟩):=ExtOf.cell l4;have gg:decide (ln≤li+1)=false:=by simp;omega
  have gg2:decide ((ln:Int)≤(li:Int)+1)=false:=by simp;omega
  have gn:((li:Int)+1).toNat=li+1:=gN;have gn0:(0:Int)≤(li:Int)+1:=gN;have gn1:(li:Int)+1<(ln:Int):=gN;have gw:IntKind.i64.wrap ((li:Int)+1)=(li:Int)+1:=IntWalk.i64_in _ gN;clear l0 l1 l4;refine kZ gT gT ?_;repeat (go_big_quiet_step ((go_at_call 117;exact lW (HSEE.out _))))
  refine wpQuiet_nil ?_;rintro _ ⟨xq,rfl⟩;clear d0 d1 d2 gg gg2 gn gn0 gn1 gw;have hbyq:=(xq.ext.block _ (kT (kW HBY2.out hgr5 gN))).trans (kW HBY2.out hgr5 gN);have hrowq:=(xq.ext.block _ (kT HBR5.out)).trans HBR5.out;have hownq:=lh HOWN5.out xq.ext;have hrdq:=HRD5.out.later xq.ext;have hgrq:=kR hgr5 (kS xq.ext (some g));generalize xq.val=wq at *
  clear HSEE;obtain⟨i,hi9,c1,hf,hr6⟩:=hrdq.step;have HRD6:=ab hr6;have hgr6:=lp hgrq 1 (.int .i64 ((i:Int)+1));have HBYQ:=ab (lK hbyq (a:=⟨g,1,none⟩) gP (.int .i64 ((i:Int)+1)));have HROWQ:=ab (lK hrowq (a:=⟨g,1,none⟩) gP (.int .i64 ((i:Int)+1)));have HOWNQ:=ab (qm hownq (a:=⟨g,1,none⟩) gP (.int .i64 ((i:Int)+1)));clear hrdq hr6 hbyq hrowq hownq hgrq;go_wp2_with (go_at_call 138;refine(nw _ HRD6.out).mono ?_)
  rintro e w7 hq;have hq7:=hq.1;have hqe:=hq.2;rw [HIT2.out] at hqe;have hgr7:=kR hgr6 hq7;have hgw7:=kR hg2 hgr7;have hby7:=kW HBYQ.out hq7 gN;have hrow7:=kW HROWQ.out hq7 gN;have hown7:=ly HOWNQ.out hq7 gN;obtain⟨f0,f1,f2,f3,f4,f5,f6,f7,f8⟩:=kY (c:=[]) hby7;obtain⟨hrd7,hqe⟩:=hqe;rcases hqe with⟨_,rfl⟩|⟨q,_⟩
  case inr=>exact absurd rfl q
  have hrc7:w7.cell? ⟨w4.heap.size,1,none⟩=some (.string ⟨(c).toArray⟩):=by rw [Jw hrow7];rfl
  have hrc70:w7.cell? ⟨w4.heap.size,0,none⟩=some (.string ⟨(c).toArray⟩):=by rw [Jw hrow7];rfl
  have hfr7:w7.frozen? ⟨w4.heap.size,1,none⟩=false:=by unfold World.frozen?;rw [hrow7];rfl
  have hrowq:(w7.setCell ⟨w4.heap.size,1,none⟩ (.string ⟨(t).toArray⟩)).heap[w4.heap.size]?=some (.cells #[.string ⟨(c).toArray⟩,.string ⟨(t).toArray⟩] 93 (0,0)):=by
   rw [heap_setCell_same w7 _ _ _ _ _ hrow7];rfl
  have hownq:=uE hown7 (a:=⟨w4.heap.size,1,none⟩) (fun e=>by have:=(hlt4 _ e).2;simp at this) (.string ⟨(t).toArray⟩);have hrdq:=hrd7.setHi (a:=⟨w4.heap.size,1,none⟩) gV (.string ⟨(t).toArray⟩);have hgrq:=lr hgr7 (a:=⟨w4.heap.size,1,none⟩) gP (.string ⟨(t).toArray⟩);clear hq hq7 hby7 hrow7 hown7 hrd7;have hrc0:(w7.setCell ⟨w4.heap.size,1,none⟩ (.string ⟨(t).toArray⟩)).cell? ⟨w4.heap.size,0,none⟩=some (.string ⟨(c).toArray⟩):=by rw [Jw hrowq];rfl
  have hrc1:(w7.setCell ⟨w4.heap.size,1,none⟩ (.string ⟨(t).toArray⟩)).cell? ⟨w4.heap.size,1,none⟩=some (.string ⟨(t).toArray⟩):=by rw [Jw hrowq];rfl
  have hbn:Below (w7.setCell ⟨w4.heap.size,1,none⟩ (.string ⟨(t).toArray⟩)).heap.size (w7.setCell ⟨w4.heap.size,1,none⟩ (.string ⟨(t).toArray⟩)) ((w7.setCell ⟨w4.heap.size,1,none⟩ (.string ⟨(t).toArray⟩)).alloc (.cells #[.string ⟨(c).toArray⟩,.string ⟨(t).toArray⟩] 93)):=(Below.refl _ _).alloc (Ju _) _;have HO6:=ab (lh hownq hbn);have hsl6:Sl ((w7.setCell ⟨w4.heap.size,1,none⟩ (.string ⟨(t).toArray⟩)).alloc (.cells #[.string ⟨(c).toArray⟩,.string ⟨(t).toArray⟩] 93)) ((w7.setCell ⟨w4.heap.size,1,none⟩ (.string ⟨(t).toArray⟩)).alloc (.cells #[.string ⟨(c).toArray⟩,.string ⟨(t).toArray⟩] 93)).heap.size (some ⟨w7.heap.size,0,none⟩) 2 1 (lw [(c,t)]):=by
   rw [show w7.heap.size=(w7.setCell ⟨w4.heap.size,1,none⟩ (.string ⟨(t).toArray⟩)).heap.size from by first|rfl|simp [World.setCell]];exact Sl.lit (n:=1) (sz:=2) (heap_alloc_new (w7.setCell ⟨w4.heap.size,1,none⟩ (.string ⟨(t).toArray⟩)) (.cells #[.string ⟨(c).toArray⟩,.string ⟨(t).toArray⟩] 93)) rfl
  have HSL6:=ab hsl6;clear hsl6;have HRD6:=ab (hrdq.later hbn);have hgr6:=kR hgrq (kS hbn (some g));have hz6:=hgr6.size;clear hrowq hownq hrdq hgrq hbn;go_wp2_with (at_builtin;refine lJ w2.heap.size 93 rfl _ _ 35 rfl Tryz.underlying35 hir rfl gR rfl (HO6.out) rfl (HSL6.out) (n6 [(c,t)]) gN gN gR hz6 ?_)
  intro v7 w7 hown7 hq7 hb7 _;have hown8:w7.ownsRow w2.heap.size 93 2 v7 (rows++[(c,t)]).length (lw (rows++[(c,t)])):=by
   rw [JA,show lw (rows++[(c,t)])=lw rows++lw [(c,t)] from by simp [lw]];exact hown7
  have hrd7:=HRD6.out.grownHi hq7 (fun k hk=>by have:=(hlt4 k hk).1;omega);have hgr7:w2.grownBy w7 (some g):=pB hgr6 hb7 gN;have hrl7:=uR (nm:=[(c,t)]) HRL.out gV;clear hown7 hq7 hb7;go_wp2
  go_roundg n
  case measure=>omega
  case rel=>exact⟨rows++[(c,t)],r4,hown8,hrd7,hgr7,by simp at *;omega,by simp at *;omega,hrl7,HF2⟩):p:=h
theorem aj {p:Prop} (h:p:=by
 have HR:Hid (Except.error 10=R):=ab hR;clear hR hp hl;obtain⟨w0,hw0⟩:∃w0,w0=w.alloc (.cells #[.int .i64 0,.string ⟨#[]⟩,.bool false,.slice none 0 0,.int .i64 0,.int .i64 0,.bool false,.slice none 0 0] 38):=⟨_,rfl⟩;obtain⟨hb0,hz0,hby0⟩:=lY w hw0;have HRD:=ab (h.later hb0);rw [hw0] at HRD;have HW0:=ab hw0;have HBY0:=ab hby0;have hgg:w.grownBy w0 (some g):=kS hb0 _;have hgr:g<w.heap.size:=h.lt;clear hw0 hby0 h;go_enter Tryz.func128,Tryz.ntmps128
 go_wp2_with (go_at_call 132;refine(lS _ HRD.out).mono ?_)
 rintro e w1 ⟨rfl,hrd1,hq1⟩;rw [←HW0.out] at hq1;have hg1:=kR hgg hq1;have HRD1:=ab hrd1;have HBY1:=ab (kW HBY0.out hq1 gN);have hz1:=hq1.size;clear hrd1 hq1;obtain⟨f0,f1,f2,f3,f4,f5,f6,f7,f8⟩:=kY (c:=[]) HBY1.out;go_wp2
 refine JM (v:=.tuple #[.agg #[.int .i64 0,.string ⟨([]).toArray⟩,.bool false,.slice none 0 0,.int .i64 0,.int .i64 0,.bool false,.slice none 0 0],.int .i64 10]) iw rfl ?_;refine⟨?_,?_⟩
 ·iterate 8 (refine lr ?_ gP _)
  exact hg1
 ·rw [←HR.out]
  exact fM):p:=h
theorem ak {p:Prop} (h:p:=by
 have HDL:Hid (y2.length<r.length∧r.length+1=s.length-j):=ab ⟨dolM_len hdo,(by have:=Jp List.length HD.out;simp at this;omega)⟩;clear hdo HF;go_wp2_with (go_at_call 40;refine HPC.out.mono ?_)
 rintro e w4 ⟨hg4,S4,j4,cc,x,ok,rfl,hr4,hT1,hT2,hxv,hm⟩;have hmm:ok=true∧x=y1∧s.drop j4=y2:=by have h:=hm;rw [HDO.out] at h;exact h
 have hok:=hmm.1;have HXY:=ab hmm.2.1;have HD4:=ab hmm.2.2;clear hmm hm;subst hok;have hcl:=hxv.len;have hone:=hxv.one;have hnS4:NotOwn S4 v6:=HN6.out.wide (fun k hk=>(HOA.out.lt k hk).2) hT2;have hgm:=hr4.gm;have ho4:=(HOA.out.gr2 hg4 hgB gN HRA.out.ng HRA.out.nm).mono (S':=S4) fun b hb _=>hT1 b hb
 have ht4:=wS HTA.out hg4 hgB gN;obtain⟨W5,hW5⟩:∃W5,W5=w4.alloc (.cells cc.toArray 44):=⟨_,rfl⟩;have HW5:Hid ((w4.alloc s0).setRow w4.heap.size cc.toArray=W5):=ab jg;have hb5:Below w4.heap.size w4 W5:=by rw [hW5];exact(Below.refl _ _).alloc (Ju _) _
 have HR5:=ab (hr4.later hb5);have HO5:=ab (ho4.later hb5);have HT5:=ab (lh ht4 hb5);have HX5:=ab (hxv.later hb5);have HG5:=ab (HGA.out.trans (hg4.trans (Gr2.below hb5)));have HBX:Hid (W5.heap[w4.heap.size]?=some (.cells cc.toArray 44 (0,0))):=ab (by rw [hW5];exact heap_alloc_new _ _);have HS14:Hid (∀b,S b→S4 b):=ab fun b hb=>hT1 b (HS1.out b hb)
 have HS24:Hid (∀b,S4 b→S b∨w.heap.size≤b):=ab fun b hb=>by
  exact fW
 have HN64:=ab hnS4;have HO6:Hid (∀b,v6.ownBlock=some b→b<w4.heap.size):=ab fun b hb=>(ho4.lt b hb).2
 have HNX:Hid (v6.ownBlock≠some w4.heap.size):=ab fun e=>by have:=HO6.out _ e;omega
 have HONE:Hid (∀u∈cc.toArray.toList,u.oneCell'=true):=ab (fun u hu=>hone u iY);have hjj:j<j4:=by
  have h1:=HDL.out;have h2:=Jp List.length HD4.out;rw [JU] at h2;have h3:=hr4.pl.2.1;omega
 clear hW5 hb5 hr4 ho4 ht4 hg4 hT1 hT2 hxv hone hnS4;go_upto_region 6 with(refine ll rfl 44 (.tmp 8) (.tmp 35) rfl (w4.heap.size) (cc.toArray) rfl rfl 44 _ (heap_alloc_new w4 _) (ld) iH rfl (HONE.out) (W:=W5) (HW5.out) ?_)
 clear HW5 HPC HOA HTA HRA HGA;obtain⟨bx,hbxe⟩:∃bx,bx=w4.heap.size:=⟨_,rfl⟩;rw [←hbxe] at HBX HO6 HNX;refine mn 5 gT gT (fun A0 W0 L a w'=>R6I S4 g m j4 s w cc x bx v6 v7 o t A0 L a w') ?_;intro A0 HA;have hsz:A0.tmps.size=70:=by rw [HA.out];rfl
 have hnd:[38,39,40,41,42].Nodup:=gR;have hbd:∀d∈[38,39,40,41,42],d<A0.tmps.size:=by rw [hsz];decide
 have e6:A0.tmps[6]?=some v6:=by rw [HA.out];rfl
 have e7:A0.tmps[7]?=some v7:=by rw [HA.out];rfl
 have e8:A0.tmps[8]?=some (.pointer (some ⟨bx,0,none⟩)):=by rw [HA.out,hbxe];rfl
 refine⟨?_,?_,?_⟩
 ·obtain⟨V,hV⟩:=nT A0 [38,39,40,41,42]
  have hdr:Below W5.heap.size W5 W5.drew:=(Below.refl _ _).drew;exact⟨V,⟨hV⟩,⟨HR5.out.later hdr,HG5.out.trans (Gr2.below hdr),HX5.out.later hdr,HBX.out,(fun _=>⟨HO5.out.later hdr,lh HT5.out hdr⟩),(fun h=>by cases h),(fun h=>by cases h),(fun h=>by cases h),(fun h=>by cases h),(fun h=>by cases h)⟩⟩
 ·refine⟨?_,?_,?_,?_,?_,trivial⟩
  ·skip
   intro L a w' hL hd hI;obtain⟨V,hf,⟨hR,hG,hX,hbx,h20,h21,h4,v0,v1,v3⟩⟩:=hI;simp [lm,Region.binds] at hd
   have e:=lU ((hf.out (t:=6) gR).trans e6);refine lR (lg rfl) (nY (.inl rfl)) ?_;rw [e];exact⟨_,hf.put hnd hbd 0 rfl _,⟨hR,hG,hX,hbx,(fun h=>h20 gQ),(fun h=>h21 gQ),(fun h=>by obtain⟨b4,a1,a2,a3,a4⟩:=h4 gQ;exact⟨b4,a1,a2,a3,fun h=>a4 gQ⟩),(fun _=>rfl),(fun h=>v1 gQ),(fun h=>v3 gQ)⟩⟩
  ·skip
   intro L a w' hL hd hI;obtain⟨V,hf,⟨hR,hG,hX,hbx,h20,h21,h4,v0,v1,v3⟩⟩:=hI;simp [lm,Region.binds] at hd
   have e:=lU ((hf.out (t:=7) gR).trans e7);refine lR (lg rfl) (nY (.inl rfl)) ?_;rw [e];exact⟨_,hf.put hnd hbd 1 rfl _,⟨hR,hG,hX,hbx,(fun h=>h20 gQ),(fun h=>h21 gQ),(fun h=>by obtain⟨b4,a1,a2,a3,a4⟩:=h4 gQ;exact⟨b4,a1,a2,a3,fun h=>a4 gQ⟩),(fun h=>v0 gQ),(fun _=>rfl),(fun h=>v3 gQ)⟩⟩
  ·skip
   intro L a w' hL hd hI;obtain⟨V,hf,⟨hR,hG,hX,hbx,h20,h21,h4,v0,v1,v3⟩⟩:=hI;simp [lm,Region.binds] at hd
   have e:=(lU ((hf.ins hnd hbd 0 rfl).trans (Jp some (v0 gW))));have e1:=(lU ((hf.ins hnd hbd 1 rfl).trans (Jp some (v1 gW))));obtain⟨ho9,ht9⟩:=h20 hL;have hz9:=hG.size;refine qS (lg rfl) (qV (vs:=#[v6,v7]) rfl Tryz.func41 gT jz) ((uu w' ho9 ht9 hz9 gN gN).mono ?_);rintro e9 w8 ⟨v8,rfl,ho8,hg8,hm8⟩;refine⟨_,rfl,?_⟩;have hlt9:=ho9.lt;have hn8:NotOwn S4 v8:=HN64.out.moved hm8 hR.lt;exact⟨_,hf.put hnd hbd 2 rfl _,⟨(hR.grow HN64.out (fun k hk=>(hlt9 k hk).1) hgB hg8),(hG.row (fun k hk=>(hlt9 k hk).1) (Ju _) hg8),(hX.grow HN64.out hg8),((hg8.block _ (kT hbx) (fun e=>HNX.out e.symm)).trans hbx),(fun h=>by simp at h),(fun _=>⟨ho8,hn8⟩),(fun h=>by obtain⟨b4,a1,a2,a3,_⟩:=h4 gQ;exact⟨b4,a1,(hg8.block _ (kT a2) (fun e=>a3 e.symm)).trans a2,a3,fun _ e=>by have:=kT a2;rcases hm8 with hm|hm;exact a3 (hm▸e);have:=hm b4 e;omega⟩),(fun h=>v0 gQ),(fun h=>v1 gQ),(fun h=>v3 gQ)⟩⟩
  ·skip
   intro L a w' hL hd hI;obtain⟨V,hf,⟨hR,hG,hX,hbx,h20,h21,h4,v0,v1,v3⟩⟩:=hI;simp [lm,Region.binds] at hd
   refine kV rfl 44 (.tmp 8) rfl bx 0 (lU ((hf.out gR).trans e8)) cc _ (GG hbx) kX rfl gY ?_;refine wpList_nil ?_;exact⟨_,hf.put hnd hbd 3 rfl _,⟨hR,hG,hX,hbx,(fun h=>h20 gQ),(fun h=>h21 gQ),(fun h=>by obtain⟨b4,a1,a2,a3,a4⟩:=h4 gQ;exact⟨b4,a1,a2,a3,fun h=>a4 gQ⟩),(fun h=>v0 gQ),(fun h=>v1 gQ),(fun _=>rfl)⟩⟩
  ·skip
   intro L a w' hL hd hI;obtain⟨V,hf,⟨hR,hG,hX,hbx,h20,h21,h4,v0,v1,v3⟩⟩:=hI;simp [lm,Region.binds] at hd
   have e:=(lU ((hf.ins hnd hbd 3 rfl).trans (Jp some (v3 gW))));have hba:Below w'.heap.size w' (w'.alloc (.cells cc.toArray 44)):=(Below.refl _ _).alloc (Ju _) _;refine lR (lg rfl) (ex_bs rfl (vs:=#[(0,.agg cc.toArray)]) il (Ce w' hcl)) ?_;have hlt9:∀b,v6.ownBlock=some b→b<w'.heap.size:=fun b hb=>Jt (HO6.out b hb) (by have:=kT hbx;omega)
   exact⟨_,hf.put hnd hbd 4 rfl _,⟨(hR.later hba),(hG.trans (Gr2.below hba)),(hX.later hba),((hba.block _ (kT hbx)).trans hbx),(fun h=>by obtain⟨a1,a2⟩:=h20 gQ;exact⟨a1.later hba,lh a2 hba⟩),(fun h=>by obtain⟨a1,a2⟩:=h21 gQ;exact⟨a1.later hba,a2⟩),(fun _=>⟨w'.heap.size,rfl,heap_alloc_new _ _,fun e=>by have:=hlt9 _ e;omega,fun h e=>by obtain⟨a1,a2⟩:=h21 gQ;have:=(a1.lt _ e).2;omega⟩),(fun h=>v0 gQ),(fun h=>v1 gQ),(fun h=>v3 gQ)⟩⟩
 ·intro L a w' hL hI
  obtain⟨V,hf,⟨hR,hG,hX,hbx,h20,h21,h4,v0,v1,v3⟩⟩:=hI;obtain⟨ho9,hn9⟩:=h21 (hL 2 gR);obtain⟨b4,hv4,hb4,_,hne⟩:=h4 (hL 4 gR);have hne:=hne (hL 2 gR);obtain⟨a9,c9,hv2⟩:=ho9.form;have ha:=hf.eq;have hA:=HA.out;rw [hv2] at ho9 hn9 hne;obtain⟨css,hown9,hsv9⟩:=ho9;have HOW:=ab hown9;have HSL:=ab (Sl.lit (n:=1) (sz:=18) hb4 iH);subst ha;subst hA;simp only [mW,hv4,hv2,List.drop_succ_cons,JZ];clear e6 e7 e8 hsz hbd hf HA h20 h21 h4 v0 v1 v3 hbxe hown9;have hwl:(lO o t).length≤o.length+1:=by unfold lO;split<;>simp
  have hzw:=hG.size;go_wp2_with (at_builtin;refine lJ w.heap.size 44 rfl _ _ 22 rfl Tryz.underlying22 hiN rfl gR rfl HOW.out rfl HSL.out (by simpa using HONE.out) gN gN gR hzw ?_)
  intro v8 w8 ho8 hg8 _ hm8;have hlt9:=HOW.out.lt;have hRR:=ab (hR.grow hn9 (fun k hk=>(hlt9 k hk).1) hgB hg8);have hGG:=ab (hG.row (fun k hk=>(hlt9 k hk).1) (Ju _) hg8);have hOO:Hid (OwnN w8 w.heap.size S4 v8 (lO o t++[x])):=ab (OwnN.app (ds:=[cc]) (m:=1) hsv9 (.cons (hX.mono fun b hb _=>⟨hb,fun e=>hn9 b e hb⟩) .nil) rfl (by simpa using ho8) hg8 hm8);have hNN:=ab (hn9.moved hm8 hR.lt);clear hR hG hX hbx hsv9 hb4 hne ho8 hg8 hm8;go_wp2
  go_roundg (s.length-j)
  case measure=>omega
  case rel=>exact⟨_,_,S4,j4,lO o t++[x],[],rfl,rfl,hRR.out,by omega,by omega,HS14.out,HS24.out,hOO.out,World.ownsRow_nil _ _ _ _,hGG.out,by simp;omega,by simp,hNN.out,NotOwn.nil _,ab (by rw [HXY.out,HD4.out];exact HXN.out)⟩):p:=h
theorem am {p:Prop} (h:p:=by
 have HQT:=ab (xt _ HRD6.out hxv6 hz6 gN);clear hat hxv hxv0 hrs hks hrd2 hby2 hb6 hxv6 hz6;unfold rxc at HQT ⊢;go_wp2_with (go_at_call 129;refine HQT.out.mono ?_)
 rintro e w8 hq;clear HQT;cases hres:ma (.mk k c ng rs lo hi lz ks) r3 with
 | error q =>
  rw [hres] at hq;obtain⟨hq8,rfl,r9,hrd9⟩:=hq;have HR2:Hid (Except.error q=R):=ab kM;have HR:=HR2;have hg8:=kR hg6 hq8;have HRD9:=ab hrd9;obtain⟨f0,f1,f2,f3,f4,f5,f6,f7,f8⟩:=kY (c:=[]) (kW HBY6.out hq8 gN);clear hres hq8 hrd9;unfold rxv0;go_wp2
  refine JM (v:=.tuple #[.agg #[.int .i64 0,.string ⟨([]).toArray⟩,.bool false,.slice none 0 0,.int .i64 0,.int .i64 0,.bool false,.slice none 0 0],.int .i64 q]) ip rfl ?_;refine⟨?_,?_⟩
  ·exact gG
  ·rw [←HR.out]
   exact fj
 | ok y =>
  obtain⟨x,r3⟩:=y;rw [hres] at hq;obtain⟨hq8,cc,rfl,hxv,hrd9⟩:=hq;have HR2:Hid (Except.ok (x,r3)=R):=ab kM;have HR:=HR2;have hg8:=kR hg6 hq8;have HRD9:=ab hrd9;obtain⟨k,c,ng,rs,lo,hi,lz,ks⟩:=x;have hxv0:=hxv;obtain⟨ra,rc,ka,kc,rfl,hrs,hks⟩:=hxv.open_;have HXV:=ab (hxv0.mono (S':=fun b=>w.heap.size≤b∧b≠w.heap.size) fun b hb hlt=>by have:=hz2;constructor<;>omega);obtain⟨f0,f1,f2,f3,f4,f5,f6,f7,f8⟩:=kY (c:=[]) (kW HBY6.out hq8 gN);clear hres hq8 hrd9 hxv hxv0 hrs hks;unfold rxc at HXV ⊢;go_wp2
  refine JM (v:=.tuple #[.agg #[.int .i64 k,.string ⟨(c).toArray⟩,.bool ng,.slice ra rs.length rc,.int .i64 lo,.int .i64 hi,.bool lz,.slice ka ks.length kc],.int .i64 0]) ip rfl ?_;refine⟨?_,?_⟩
  ·exact gG
  rw [←HR.out];refine⟨rxc k c ng ra rs.length rc lo hi lz ka ks.length kc,rfl,RxV.mono (S:=fun b=>w.heap.size≤b∧b≠w.heap.size) (fun b hb _=>hb.1) ?_,?_⟩
  ·iterate 8 (refine RxV.keep (Kept.setLow _ (fun b hb=>by have:w.heap.size≤b∧b≠w.heap.size:=hb;first|omega|(simp;done)|(simp;omega))) ?_)
   exact HXV.out
  ·iterate 8 (refine RdT.setHi ?_ gP _)
   exact HRD9.out):p:=h
theorem an {p:Prop} (h:p:=by
 subst h93;have HF2:Hid (lV n (rows++[(c,c)]) ([45]::[93]::r3)=R0):=ab (by rw [←HF.out];simp only [lV,ht,hit,ht2];simp [lq]);clear HF ht hit hrd hok ht2;go_wp2_with (go_at_call 137;refine(lQ _ HRD.out HT.out gU).mono ?_)
 rintro e w3 ⟨rfl,hrd3,hq3⟩;have hgr3:=kR hg hq3;have hown3:=ly HOWN.out hq3 gN;have HRD3:=ab hrd3;clear hrd3 hq3;go_wp2_with (go_at_call 138;refine(nw _ HRD3.out).mono ?_)
 rintro e w4 hq;have hq4:=hq.1;have hqe:=hq.2;rw [HIT.out] at hqe;obtain⟨hrd4,hqe⟩:=hqe;rcases hqe with⟨_,rfl⟩|⟨q,_⟩
 case inr=>exact absurd rfl q
 have hgr4:=kR hgr3 hq4;have hown4:=ly hown3 hq4 gN;have hlt4:=hown4.lt;obtain⟨va,vc,rfl⟩:=lD hown4;have hz4:=hgr4.size;obtain⟨w5,hw5⟩:∃w5,w5=w4.alloc (.cells #[.string ⟨(c).toArray⟩,.string ⟨(c).toArray⟩] 93):=⟨_,rfl⟩;obtain⟨hb5,hz5e,hbr5⟩:=lY w4 hw5;have hz5:w4.heap.size+1≤w5.heap.size:=gN;have HOWN5:=ab (lh hown4 hb5);have HRD5:=ab (hrd4.later hb5);have HBR5:=ab hbr5;have hgr5:=kR hgr4 (kS hb5 (some g));clear hq hq4 hrd4 hown3 hown4 hz5e hbr5 HRD3;obtain⟨ir,hir⟩:=info_parts oM;go_upto_region 10 with fail
 rw [←hw5];clear hw5;obtain⟨lb,lo,lk,li,ln,l0,l1,l2,l3,l4⟩:=HRD5.out.look1;have HSEE:Hid (∀x:ExtOf w5,Calls Tryz.prog 117 #[.pointer (some ⟨g,0,none⟩)] x.val fun e w'=>e=.returned (.string ⟨(([45]:Str)).toArray⟩)∧Below x.val.heap.size x.val w'):=ab fun x=>(l8 _ (HRD5.out.later x.ext)).mono fun _ _ ⟨h1,h2⟩=>⟨by rw [h1];rfl,h2.below _⟩
 have d0:∀x:ExtOf w5,x.val.cell? ⟨g,0,none⟩=some (.slice (some ⟨lb,lo,none⟩) ln lk):=ExtOf.cell l0;have d1:∀x:ExtOf w5,x.val.cell? ⟨g,1,none⟩=some (.int .i64 li):=ExtOf.cell l1;have d2:∀x:ExtOf w5,x.val.cell? ⟨lb,lo+(li+1),none⟩=some (.string ⟨([93]).toArray⟩):=ExtOf.cell l4;have gg:decide (ln≤li+1)=false:=by simp;omega
 have gg2:decide ((ln:Int)≤(li:Int)+1)=false:=by simp;omega
 have gn:((li:Int)+1).toNat=li+1:=gN;have gn0:(0:Int)≤(li:Int)+1:=gN;have gn1:(li:Int)+1<(ln:Int):=gN;have gw:IntKind.i64.wrap ((li:Int)+1)=(li:Int)+1:=IntWalk.i64_in _ gN;clear l0 l1 l4;refine kZ gT gT ?_;repeat (go_big_quiet_step ((go_at_call 117;exact lW (HSEE.out _))))
 refine wpQuiet_nil ?_;rintro _ ⟨xq,rfl⟩;clear d0 d1 d2 gg gg2 gn gn0 gn1 gw;have hrowq:=(xq.ext.block _ (kT HBR5.out)).trans HBR5.out;have hownq:=lh HOWN5.out xq.ext;have hrdq:=HRD5.out.later xq.ext;have hgrq:=kR hgr5 (kS xq.ext (some g));generalize xq.val=wq at *
 clear HSEE;have hrc0:(wq).cell? ⟨w4.heap.size,0,none⟩=some (.string ⟨(c).toArray⟩):=by rw [Jw hrowq];rfl
 have hrc1:(wq).cell? ⟨w4.heap.size,1,none⟩=some (.string ⟨(c).toArray⟩):=by rw [Jw hrowq];rfl
 have hbn:Below (wq).heap.size (wq) ((wq).alloc (.cells #[.string ⟨(c).toArray⟩,.string ⟨(c).toArray⟩] 93)):=(Below.refl _ _).alloc (Ju _) _;have HO6:=ab (lh hownq hbn);have hsl6:Sl ((wq).alloc (.cells #[.string ⟨(c).toArray⟩,.string ⟨(c).toArray⟩] 93)) ((wq).alloc (.cells #[.string ⟨(c).toArray⟩,.string ⟨(c).toArray⟩] 93)).heap.size (some ⟨wq.heap.size,0,none⟩) 2 1 (lw [(c,c)]):=by
  exact fO
 have HSL6:=ab hsl6;clear hsl6;have HRD6:=ab (hrdq.later hbn);have hgr6:=kR hgrq (kS hbn (some g));have hz6:=hgr6.size;clear hrowq hownq hrdq hgrq hbn;go_wp2_with (at_builtin;refine lJ w2.heap.size 93 rfl _ _ 35 rfl Tryz.underlying35 hir rfl gR rfl (HO6.out) rfl (HSL6.out) (n6 [(c,c)]) gN gN gR hz6 ?_)
 intro v7 w7 hown7 hq7 hb7 _;have hown8:w7.ownsRow w2.heap.size 93 2 v7 (rows++[(c,c)]).length (lw (rows++[(c,c)])):=by
  exact gy
 have hrd7:=HRD6.out.grownHi hq7 (fun k hk=>by have:=(hlt4 k hk).1;omega);have hgr7:w2.grownBy w7 (some g):=pB hgr6 hb7 gN;have hrl7:=uR (nm:=[(c,c)]) HRL.out gV;clear hown7 hq7 hb7;go_wp2
 go_roundg n
 case measure=>omega
 case rel=>exact⟨rows++[(c,c)],([45]::[93]::r3),hown8,hrd7,hgr7,by simp at *;omega,by simp at *;omega,hrl7,HF2⟩):p:=h
theorem ao {p:Prop} (h:p:=by
 have HF2:Hid (none=R0):=ab (by rw [←HF.out];simp only [lV,ht,hit,ht2,ht3,hit2];simp);have HR2:Hid (Except.error 10=R):=ab jq;clear HR;have HR:=HR2;have HIT2:=ab hit2;clear HF ht hit hrd hok ht2 ht3 hit2 h93;go_wp2_with (go_at_call 137;refine(lQ _ HRD.out HT.out gU).mono ?_)
 rintro e w3 ⟨rfl,hrd3,hq3⟩;have hgr3:=kR hg hq3;have hown3:=ly HOWN.out hq3 gN;have HRD3:=ab hrd3;clear hrd3 hq3;go_wp2_with (go_at_call 138;refine(nw _ HRD3.out).mono ?_)
 rintro e w4 hq;have hq4:=hq.1;have hqe:=hq.2;rw [HIT.out] at hqe;obtain⟨hrd4,hqe⟩:=hqe;rcases hqe with⟨_,rfl⟩|⟨q,_⟩
 case inr=>exact absurd rfl q
 have hgr4:=kR hgr3 hq4;have hown4:=ly hown3 hq4 gN;have hlt4:=hown4.lt;obtain⟨va,vc,rfl⟩:=lD hown4;have hz4:=hgr4.size;obtain⟨w5,hw5⟩:∃w5,w5=w4.alloc (.cells #[.string ⟨(c).toArray⟩,.string ⟨(c).toArray⟩] 93):=⟨_,rfl⟩;obtain⟨hb5,hz5e,hbr5⟩:=lY w4 hw5;have hz5:w4.heap.size+1≤w5.heap.size:=gN;have HOWN5:=ab (lh hown4 hb5);have HRD5:=ab (hrd4.later hb5);have HBR5:=ab hbr5;have hgr5:=kR hgr4 (kS hb5 (some g));clear hq hq4 hrd4 hown3 hown4 hz5e hbr5 HRD3;obtain⟨ir,hir⟩:=info_parts oM;go_upto_region 10 with fail
 rw [←hw5];clear hw5;obtain⟨lb,lo,lk,li,ln,l0,l1,l2,l3,l4⟩:=HRD5.out.look1;have HSEE:Hid (∀x:ExtOf w5,Calls Tryz.prog 117 #[.pointer (some ⟨g,0,none⟩)] x.val fun e w'=>e=.returned (.string ⟨(([45]:Str)).toArray⟩)∧Below x.val.heap.size x.val w'):=ab fun x=>(l8 _ (HRD5.out.later x.ext)).mono fun _ _ ⟨h1,h2⟩=>⟨by rw [h1];rfl,h2.below _⟩
 have d0:∀x:ExtOf w5,x.val.cell? ⟨g,0,none⟩=some (.slice (some ⟨lb,lo,none⟩) ln lk):=ExtOf.cell l0;have d1:∀x:ExtOf w5,x.val.cell? ⟨g,1,none⟩=some (.int .i64 li):=ExtOf.cell l1;have d2:∀x:ExtOf w5,x.val.cell? ⟨lb,lo+(li+1),none⟩=some (.string ⟨(c3).toArray⟩):=ExtOf.cell l4;have gg:decide (ln≤li+1)=false:=by simp;omega
 have gg2:decide ((ln:Int)≤(li:Int)+1)=false:=by simp;omega
 have gn:((li:Int)+1).toNat=li+1:=gN;have gn0:(0:Int)≤(li:Int)+1:=gN;have gn1:(li:Int)+1<(ln:Int):=gN;have gw:IntKind.i64.wrap ((li:Int)+1)=(li:Int)+1:=IntWalk.i64_in _ gN;clear l0 l1 l4;refine kZ gT gT ?_;repeat (go_big_quiet_step ((go_at_call 117;exact lW (HSEE.out _))))
 refine wpQuiet_nil ?_;rintro _ ⟨xq,rfl⟩;clear d0 d1 d2 gg gg2 gn gn0 gn1 gw;have hbyq:=(xq.ext.block _ (kT (kW HBY2.out hgr5 gN))).trans (kW HBY2.out hgr5 gN);have hrowq:=(xq.ext.block _ (kT HBR5.out)).trans HBR5.out;have hownq:=lh HOWN5.out xq.ext;have hrdq:=HRD5.out.later xq.ext;have hgrq:=kR hgr5 (kS xq.ext (some g));generalize xq.val=wq at *
 clear HSEE;obtain⟨i,hi9,c1,hf,hr6⟩:=hrdq.step;have HRD6:=ab hr6;have hgr6:=lp hgrq 1 (.int .i64 ((i:Int)+1));have HBYQ:=ab (lK hbyq (a:=⟨g,1,none⟩) gP (.int .i64 ((i:Int)+1)));have HROWQ:=ab (lK hrowq (a:=⟨g,1,none⟩) gP (.int .i64 ((i:Int)+1)));have HOWNQ:=ab (qm hownq (a:=⟨g,1,none⟩) gP (.int .i64 ((i:Int)+1)));clear hrdq hr6 hbyq hrowq hownq hgrq;go_wp2_with (go_at_call 138;refine(nw _ HRD6.out).mono ?_)
 rintro e w7 hq;have hq7:=hq.1;have hqe:=hq.2;rw [HIT2.out] at hqe;have hgr7:=kR hgr6 hq7;have hgw7:=kR hg2 hgr7;have hby7:=kW HBYQ.out hq7 gN;have hrow7:=kW HROWQ.out hq7 gN;have hown7:=ly HOWNQ.out hq7 gN;obtain⟨f0,f1,f2,f3,f4,f5,f6,f7,f8⟩:=kY (c:=[]) hby7;obtain⟨hqe',r9,hrd9⟩:e=.returned (.tuple #[.string ⟨#[]⟩,.slice none 0 0,.int .i64 10])∧∃r,Rd w7 g r d:=hqe;subst hqe';have HRD9:=ab hrd9;clear hq hq7 hby7 hrow7 hown7 hrd9;go_wp2
 refine JM (v:=.tuple #[.agg #[.int .i64 0,.string ⟨([]).toArray⟩,.bool false,.slice none 0 0,.int .i64 0,.int .i64 0,.bool false,.slice none 0 0],.int .i64 10]) io rfl ?_;refine⟨?_,?_⟩
 ·iterate 8 (refine lr ?_ gP _)
  exact hgw7
 ·rw [←HR.out]
  exact fj):p:=h
theorem aq {p:Prop} (h:p:=by
 have HF2:Hid (none=R0):=ab (by rw [←HF.out];simp only [lV,ht,hit,ht2,ht3,hit2];simp [hnm2]);have HR2:Hid (Except.error 10=R):=ab jq;clear HR;have HR:=HR2;have HNM2:=ab hnm2;clear HF ht hit hrd hok ht2 ht3 hit2 h93 hnm2;go_wp2_with (go_at_call 137;refine(lQ _ HRD.out HT.out gU).mono ?_)
 rintro e w3 ⟨rfl,hrd3,hq3⟩;have hgr3:=kR hg hq3;have hown3:=ly HOWN.out hq3 gN;have HRD3:=ab hrd3;clear hrd3 hq3;go_wp2_with (go_at_call 138;refine(nw _ HRD3.out).mono ?_)
 rintro e w4 hq;have hq4:=hq.1;have hqe:=hq.2;rw [HIT.out] at hqe;obtain⟨hrd4,hqe⟩:=hqe;rcases hqe with⟨_,rfl⟩|⟨q,_⟩
 case inr=>exact absurd rfl q
 have hgr4:=kR hgr3 hq4;have hown4:=ly hown3 hq4 gN;have hlt4:=hown4.lt;obtain⟨va,vc,rfl⟩:=lD hown4;have hz4:=hgr4.size;obtain⟨w5,hw5⟩:∃w5,w5=w4.alloc (.cells #[.string ⟨(c).toArray⟩,.string ⟨(c).toArray⟩] 93):=⟨_,rfl⟩;obtain⟨hb5,hz5e,hbr5⟩:=lY w4 hw5;have hz5:w4.heap.size+1≤w5.heap.size:=gN;have HOWN5:=ab (lh hown4 hb5);have HRD5:=ab (hrd4.later hb5);have HBR5:=ab hbr5;have hgr5:=kR hgr4 (kS hb5 (some g));clear hq hq4 hrd4 hown3 hown4 hz5e hbr5 HRD3;obtain⟨ir,hir⟩:=info_parts oM;go_upto_region 10 with fail
 rw [←hw5];clear hw5;obtain⟨lb,lo,lk,li,ln,l0,l1,l2,l3,l4⟩:=HRD5.out.look1;have HSEE:Hid (∀x:ExtOf w5,Calls Tryz.prog 117 #[.pointer (some ⟨g,0,none⟩)] x.val fun e w'=>e=.returned (.string ⟨(([45]:Str)).toArray⟩)∧Below x.val.heap.size x.val w'):=ab fun x=>(l8 _ (HRD5.out.later x.ext)).mono fun _ _ ⟨h1,h2⟩=>⟨by rw [h1];rfl,h2.below _⟩
 have d0:∀x:ExtOf w5,x.val.cell? ⟨g,0,none⟩=some (.slice (some ⟨lb,lo,none⟩) ln lk):=ExtOf.cell l0;have d1:∀x:ExtOf w5,x.val.cell? ⟨g,1,none⟩=some (.int .i64 li):=ExtOf.cell l1;have d2:∀x:ExtOf w5,x.val.cell? ⟨lb,lo+(li+1),none⟩=some (.string ⟨(c3).toArray⟩):=ExtOf.cell l4;have gg:decide (ln≤li+1)=false:=by simp;omega
 have gg2:decide ((ln:Int)≤(li:Int)+1)=false:=by simp;omega
 have gn:((li:Int)+1).toNat=li+1:=gN;have gn0:(0:Int)≤(li:Int)+1:=gN;have gn1:(li:Int)+1<(ln:Int):=gN;have gw:IntKind.i64.wrap ((li:Int)+1)=(li:Int)+1:=IntWalk.i64_in _ gN;clear l0 l1 l4;refine kZ gT gT ?_;repeat (go_big_quiet_step ((go_at_call 117;exact lW (HSEE.out _))))
 refine wpQuiet_nil ?_;rintro _ ⟨xq,rfl⟩;clear d0 d1 d2 gg gg2 gn gn0 gn1 gw;have hbyq:=(xq.ext.block _ (kT (kW HBY2.out hgr5 gN))).trans (kW HBY2.out hgr5 gN);have hrowq:=(xq.ext.block _ (kT HBR5.out)).trans HBR5.out;have hownq:=lh HOWN5.out xq.ext;have hrdq:=HRD5.out.later xq.ext;have hgrq:=kR hgr5 (kS xq.ext (some g));generalize xq.val=wq at *
 clear HSEE;obtain⟨i,hi9,c1,hf,hr6⟩:=hrdq.step;have HRD6:=ab hr6;have hgr6:=lp hgrq 1 (.int .i64 ((i:Int)+1));have HBYQ:=ab (lK hbyq (a:=⟨g,1,none⟩) gP (.int .i64 ((i:Int)+1)));have HROWQ:=ab (lK hrowq (a:=⟨g,1,none⟩) gP (.int .i64 ((i:Int)+1)));have HOWNQ:=ab (qm hownq (a:=⟨g,1,none⟩) gP (.int .i64 ((i:Int)+1)));clear hrdq hr6 hbyq hrowq hownq hgrq;go_wp2_with (go_at_call 138;refine(nw _ HRD6.out).mono ?_)
 rintro e w7 hq;have hq7:=hq.1;have hqe:=hq.2;rw [HIT2.out] at hqe;have hgr7:=kR hgr6 hq7;have hgw7:=kR hg2 hgr7;have hby7:=kW HBYQ.out hq7 gN;have hrow7:=kW HROWQ.out hq7 gN;have hown7:=ly HOWNQ.out hq7 gN;obtain⟨f0,f1,f2,f3,f4,f5,f6,f7,f8⟩:=kY (c:=[]) hby7;obtain⟨hrd7,hqe⟩:=hqe;rcases hqe with⟨q,_⟩|⟨_,la2,lk2,rfl,_⟩
 case inl=>exact absurd q HNM2.out
 have HRD9:=ab hrd7;clear hq hq7 hby7 hrow7 hown7 hrd7;go_wp2
 refine JM (v:=.tuple #[.agg #[.int .i64 0,.string ⟨([]).toArray⟩,.bool false,.slice none 0 0,.int .i64 0,.int .i64 0,.bool false,.slice none 0 0],.int .i64 10]) io rfl ?_;refine⟨?_,?_⟩
 ·iterate 8 (refine lr ?_ gP _)
  exact hgw7
 ·rw [←HR.out]
  exact fj):p:=h
theorem ar {p:Prop} (h:p:=by
 obtain⟨k,ac,hk,rfl,hblr,hfrr,hacl,HF⟩:=hrel;clear HT0 z3;have hBr:B≤wr.heap.size:=Jv hB1 hfrr.size;have hbB:=hfrr.below hB1 (by simp;exact hbl.le);have hgl:=hblr.lt;cases hd:rs.drop k with
 | nil =>
  have h2:rs.length≤k:=it;have HE:Hid (ac=T):=ab (by rw [←HF.out,hd];simp);clear hd HF;go_wp2_with (go_at_call 34;refine(lv B _ (ac) 93 _ (hblr) gP gP gR gR).mono ?_)
  first|rintro e w9 rfl hbl9 hfr9|rintro e w9 ⟨rfl,hbl9,hfr9⟩
  go_wp2_with fail
  go_end0
  refine⟨rfl,?_,((((Fr.refl B [g] [5] w).alloc _).trans HFR0.out).trans hfrr).trans hfr9⟩;have h:=hbl9;rw [HE.out,←HTT.out] at h;simpa [setS] using h
 | cons r0 r =>
  obtain⟨h2,h3,hr0⟩:=lC hd;obtain⟨n1,n2⟩:=HNE.out r0 (JH h3);obtain⟨b,o,rfl,hbb,c0,c1⟩:=(HR1.out.keep hbB).row h3;obtain⟨f,t⟩:=r0;replace n1:f≠[]:=n1;replace n2:t≠[]:=n2;replace c0:wr.cell? ⟨b,o+k*2,none⟩=some (.string ⟨(f).toArray⟩):=c0;replace c1:wr.cell? ⟨b,o+k*2+1,none⟩=some (.string ⟨(t).toArray⟩):=c1;have HE:Hid (ac++(rowS (f,t)++r.flatMap rowS)=T):=ab iE;have Hr:=ab hr0;have hsl:ac.length+(escL th2 f).length+(if t=f then 0 else(escL th2 t).length+1)≤15000000:=by
   have h:=Jp List.length HE.out;simp only [JA,rowS] at h;split<;>simp_all<;>omega
  obtain⟨l1,l2⟩:=HSZ.out (f,t) (JH h3);replace l1:f.length≤1000000:=l1;replace l2:t.length≤1000000:=l2;have q1:=sq th2 f;have q2:=sq th2 t;have N1:=ab n1;have N2:=ab n2;clear hd HF hr0 h3 n1 n2;go_wp2_with (first|(go_at_call 55;refine(t6 _ _ _ N1.out gN).mono ?_;rintro e w2 ⟨rfl,rfl⟩;rw [show [94,45,92,91,93,47]=th2 from rfl])|(go_at_call 32;refine(lB B _ (ac) _ _ (hblr.alloc _) gP gP gP).mono ?_))
  first|rintro e w2 rfl hbl2 hfr2|rintro e w2 ⟨rfl,hbl2,hfr2⟩
  have hbx2:=hfr2.held (heap_alloc_new wr _) gR (Nat.ne_of_gt hgl);have y0:w2.cell? ⟨wr.heap.size,0,none⟩=some (.string ⟨(f).toArray⟩):=by rw [Jw hbx2];rfl
  have y1:w2.cell? ⟨wr.heap.size,1,none⟩=some (.string ⟨(t).toArray⟩):=by rw [Jw hbx2];rfl
  have hf2:=((Fr.refl B [g] [5] wr).alloc _).trans hfr2;have hB2:B≤w2.heap.size:=Jv hBr hf2.size;have HFR2:=ab (hfrr.trans hf2);have HBX2:=ab hbx2;clear hbx2 hf2 hfr2;by_cases htf:t=f
  ·have HT2:=ab htf
   subst htf;go_wp2
   go_roundw
   case rel=>exact⟨k+1,ac++escL th2 t,by omega,by go_num,hbl2,HFR2.out,by simp only [JA];simp at hsl;omega,ab (by rw [Hr.out,←HE.out];simp [rowS])⟩
   case measure=>simp [intOf];omega
  ·have hne:(t==f)=false:=by simpa using htf
   have HT2:=ab htf;rw [Jo htf] at hsl;clear htf;go_wp2_with (go_at_call 34;refine(lv B _ (ac++escL th2 f) 45 _ (hbl2) gP gP gR gR).mono ?_)
   first|rintro e w3 rfl hbl3 hfr3|rintro e w3 ⟨rfl,hbl3,hfr3⟩
   have hbx3:=hfr3.held HBX2.out gR (Nat.ne_of_gt hgl);have y2:w3.cell? ⟨wr.heap.size,1,none⟩=some (.string ⟨(t).toArray⟩):=by rw [Jw hbx3];rfl
   have hB3:B≤w3.heap.size:=Jv hB2 hfr3.size;have HFR3:=ab (HFR2.out.trans hfr3);clear hbx3 hfr3;go_wp2_with (first|(go_at_call 55;refine(t6 _ _ _ N2.out gN).mono ?_;rintro e w4 ⟨rfl,rfl⟩;rw [show [94,45,92,91,93,47]=th2 from rfl])|(go_at_call 32;refine(lB B _ (ac++escL th2 f++[45]) _ _ (hbl3) gP gP gP).mono ?_))
   first|rintro e w4 rfl hbl4 hfr4|rintro e w4 ⟨rfl,hbl4,hfr4⟩
   go_wp2_with fail
   go_roundw
   case rel=>exact⟨k+1,ac++escL th2 f++[45]++escL th2 t,by omega,by go_num,hbl4,HFR3.out.trans hfr4,by simp only [JA,Jr,J0];omega,ab (by rw [Hr.out,←HE.out];simp [rowS,HT2.out])⟩
   case measure=>simp [intOf];omega):p:=h
theorem au {p:Prop} (h:p:=by
 have HF2:Hid (lV n (rows++[(c,c)]) r1=R0):=ab (by rw [←HF.out];simp only [lV,ht,hit,ht2];simp);have hne:=(yX ht2 gU).1;obtain⟨u,hu⟩:∃u,hdS r1=u:=⟨_,rfl⟩;rw [hu] at hne;have HU:=ab hu;clear HF ht hit hrd hok ht2 hu;go_wp2_with (go_at_call 137;refine(lQ _ HRD.out HT.out gU).mono ?_)
 rintro e w3 ⟨rfl,hrd3,hq3⟩;have hgr3:=kR hg hq3;have hown3:=ly HOWN.out hq3 gN;have HRD3:=ab hrd3;clear hrd3 hq3;go_wp2_with (go_at_call 138;refine(nw _ HRD3.out).mono ?_)
 rintro e w4 hq;have hq4:=hq.1;have hqe:=hq.2;rw [HIT.out] at hqe;obtain⟨hrd4,hqe⟩:=hqe;rcases hqe with⟨_,rfl⟩|⟨q,_⟩
 case inr=>exact absurd rfl q
 have hgr4:=kR hgr3 hq4;have hown4:=ly hown3 hq4 gN;have hlt4:=hown4.lt;obtain⟨va,vc,rfl⟩:=lD hown4;have hz4:=hgr4.size;obtain⟨w5,hw5⟩:∃w5,w5=w4.alloc (.cells #[.string ⟨(c).toArray⟩,.string ⟨(c).toArray⟩] 93):=⟨_,rfl⟩;obtain⟨hb5,hz5e,hbr5⟩:=lY w4 hw5;have hz5:w4.heap.size+1≤w5.heap.size:=gN;have HOWN5:=ab (lh hown4 hb5);have HRD5:=ab (hrd4.later hb5);have HBR5:=ab hbr5;have hgr5:=kR hgr4 (kS hb5 (some g));clear hq hq4 hrd4 hown3 hown4 hz5e hbr5 HRD3;obtain⟨ir,hir⟩:=info_parts oM;go_upto_region 10 with fail
 rw [←hw5];clear hw5;have HSEE:Hid (∀x:ExtOf w5,Calls Tryz.prog 117 #[.pointer (some ⟨g,0,none⟩)] x.val fun e w'=>e=.returned (.string ⟨(u).toArray⟩)∧Below x.val.heap.size x.val w'):=ab fun x=>(l8 _ (HRD5.out.later x.ext)).mono fun _ _ ⟨h1,h2⟩=>⟨by rw [h1,HU.out],h2.below _⟩
 refine kZ gT gT ?_;repeat (go_big_quiet_step ((go_at_call 117;exact lW (HSEE.out _))))
 refine wpQuiet_nil ?_;rintro _ ⟨xq,rfl⟩;have hrowq:=(xq.ext.block _ (kT HBR5.out)).trans HBR5.out;have hownq:=lh HOWN5.out xq.ext;have hrdq:=HRD5.out.later xq.ext;have hgrq:=kR hgr5 (kS xq.ext (some g));generalize xq.val=wq at *
 clear HSEE HU hne;have hrc0:(wq).cell? ⟨w4.heap.size,0,none⟩=some (.string ⟨(c).toArray⟩):=by rw [Jw hrowq];rfl
 have hrc1:(wq).cell? ⟨w4.heap.size,1,none⟩=some (.string ⟨(c).toArray⟩):=by rw [Jw hrowq];rfl
 have hbn:Below (wq).heap.size (wq) ((wq).alloc (.cells #[.string ⟨(c).toArray⟩,.string ⟨(c).toArray⟩] 93)):=(Below.refl _ _).alloc (Ju _) _;have HO6:=ab (lh hownq hbn);have hsl6:Sl ((wq).alloc (.cells #[.string ⟨(c).toArray⟩,.string ⟨(c).toArray⟩] 93)) ((wq).alloc (.cells #[.string ⟨(c).toArray⟩,.string ⟨(c).toArray⟩] 93)).heap.size (some ⟨wq.heap.size,0,none⟩) 2 1 (lw [(c,c)]):=by
  exact fO
 have HSL6:=ab hsl6;clear hsl6;have HRD6:=ab (hrdq.later hbn);have hgr6:=kR hgrq (kS hbn (some g));have hz6:=hgr6.size;clear hrowq hownq hrdq hgrq hbn;go_wp2_with (at_builtin;refine lJ w2.heap.size 93 rfl _ _ 35 rfl Tryz.underlying35 hir rfl gR rfl (HO6.out) rfl (HSL6.out) (n6 [(c,c)]) gN gN gR hz6 ?_)
 intro v7 w7 hown7 hq7 hb7 _;have hown8:w7.ownsRow w2.heap.size 93 2 v7 (rows++[(c,c)]).length (lw (rows++[(c,c)])):=by
  exact gy
 have hrd7:=HRD6.out.grownHi hq7 (fun k hk=>by have:=(hlt4 k hk).1;omega);have hgr7:w2.grownBy w7 (some g):=pB hgr6 hb7 gN;have hrl7:=uR (nm:=[(c,c)]) HRL.out gV;clear hown7 hq7 hb7;go_wp2
 go_roundg n
 case measure=>omega
 case rel=>exact⟨rows++[(c,c)],r1,hown8,hrd7,hgr7,by simp at *;omega,by simp at *;omega,hrl7,HF2⟩):p:=h
theorem aw {p:Prop} (h:p:=by
 obtain⟨css,hca,hva⟩:=HOA1.out;obtain⟨csst,hct,hvt⟩:=HOT1.out;obtain⟨ta,tc,rfl⟩:=lD hct;obtain⟨aa,ac,rfl⟩:=lD hca;have HSEQ:=ab (In w1 ⟨csst,hct,hvt⟩ gN HSM.out.2);have HCA:=ab hca;have HVA:=ab hva;have hlta:=hca.lt;clear hca hva hct hvt;go_wp2_with (go_at_call 122;refine HSEQ.out.mono ?_)
 rintro e w5 hq5;obtain⟨cc5,rfl,hx5,hb5⟩:=hq5;obtain⟨yk,yc,yn,yr,yl,yh,yz,ys,za,zc,zka,zkc,hy,rfl⟩:=hx5.box;rw [hy] at hx5;have hbn:=(Below.refl w5.heap.size w5).alloc (Ju _) (.cells (rxc yk yc yn za yr.length zc yl yh yz zka ys.length zkc).toArray 38);have ho6:=lh (lh HCA.out hb5) hbn;have hsl6:=Sl.lit (n:=1) (sz:=8) (heap_alloc_new w5 (.cells (rxc yk yc yn za yr.length zc yl yh yz zka ys.length zkc).toArray 38)) rfl;have hrv6:=(HVA.out.later hb5).later hbn;have hcv6:=hx5.later hbn;have hone:=hx5.one;have hz5:=hb5.size;unfold rxc at ho6 hsl6 hrv6 hcv6 hone hbn;have HO6:=ab ho6;have HSL6:=ab hsl6;have HRV6:=ab hrv6;have HCV6:=ab hcv6;have HONE:=ab hone;have HY:=ab hy;clear ho6 hsl6 hrv6 hcv6 hone hx5 hy HSEQ HCA HVA;unfold rxc;have hlen6:=Rx.len_parts alts;go_wp2_with (at_builtin;refine lJ w0.heap.size 38 rfl _ _ 36 rfl Tryz.underlying36 hix rfl gR rfl HO6.out rfl HSL6.out HONE.out gN gN gR gV ?_)
 intro v7 w7 ho7 hq7 hb7 hmv;have hox7:OwnX w7 w0.heap.size v7 (alts++[seqR terms]):=by
  exact fS
 obtain⟨s1,s2,s3⟩:=tU HSM.out.2 gN;have hpa:Rx.partsL (alts++[seqR terms])≤1000000:=by rw [partsL_app];simp only [Rx.partsL];omega
 have hsa:Rx.smallL (alts++[seqR terms]):=smallL_app HSM.out.1 ⟨s1,trivial⟩;obtain⟨a7,n7,c7,hv7⟩:=hox7.form;subst hv7;have HALT:=ab (Alt_res w7 hox7 hpa hsa);have hg05:=kR hgw1 (kS hb5 (some g));have hg06:=kR hg05 (kS hbn (some g));have hg07:=pB hg06 hb7 (Ju _);have hrd7:=((HRD1.out.later hb5).later hbn).grownHi hq7 (fun k hk=>by have:=(hlta k hk).1;omega);have HRD7:=ab hrd7;clear hox7 s1 s2 s3 hpa hsa hq7 hmv ho7 hb7 hrd7 hg05 hg06;go_wp2_with (go_at_call 121;refine HALT.out.mono ?_)
 rintro e w8 hq8;obtain⟨cc8,rfl,hx8,hb8⟩:=hq8;have hg08:=kR hg07 (kS hb8 (some g));have hg8:=kR hgg hg08;have HRD8:=ab (HRD7.out.later hb8);have hz07:=hg07.size;obtain⟨xk,xc,xn,xr,xl,xh,xz,xs,xa,xrc,xka,xkc,hy8,rfl⟩:=hx8.box;have HR2:Hid (Except.ok (Rx.mk xk xc xn xr xl xh xz xs,_)=R):=ab (hy8▸HF2.out);have HR:=HR2;rw [hy8] at hx8;have HXV:=ab (hx8.mono (S':=fun b=>w.heap.size≤b∧b≠w.heap.size) fun b hb hlt=>by constructor<;>omega);obtain⟨f0,f1,f2,f3,f4,f5,f6,f7,f8⟩:=kY (c:=[]) (kW HBY0.out hg08 gN);clear hx8 hy8 HALT hg07 HRD7;unfold rxc at HXV ⊢;go_wp2
 refine JM (v:=.tuple #[.agg #[.int .i64 xk,.string ⟨(xc).toArray⟩,.bool xn,.slice xa xr.length xrc,.int .i64 xl,.int .i64 xh,.bool xz,.slice xka xs.length xkc],.int .i64 0]) jO rfl ?_;refine⟨?_,?_⟩
 ·iterate 8 (refine lr ?_ gP _)
  exact hg8
 rw [←HR.out];refine⟨rxc xk xc xn xa xr.length xrc xl xh xz xka xs.length xkc,rfl,RxV.mono (S:=fun b=>w.heap.size≤b∧b≠w.heap.size) (fun b hb _=>hb.1) ?_,?_⟩
 ·iterate 8 (refine RxV.keep (Kept.setLow _ (fun b hb=>by have:w.heap.size≤b∧b≠w.heap.size:=hb;first|omega|(simp;done)|(simp;omega))) ?_)
  exact HXV.out
 ·iterate 8 (refine RdT.setHi ?_ gP _)
  exact HRD8.out):p:=h
theorem ax {p:Prop} (h:p:=by
 have HF2:Hid (none=R0):=ab (by rw [←HF.out];simp only [lV,ht,hit,ht2];simp [lq,og]);have HR2:Hid (Except.error 10=R):=ab jq;clear HR;have HR:=HR2;clear HF ht hit hrd hok ht2;go_wp2_with (go_at_call 137;refine(lQ _ HRD.out HT.out gU).mono ?_)
 rintro e w3 ⟨rfl,hrd3,hq3⟩;have hgr3:=kR hg hq3;have hown3:=ly HOWN.out hq3 gN;have HRD3:=ab hrd3;clear hrd3 hq3;go_wp2_with (go_at_call 138;refine(nw _ HRD3.out).mono ?_)
 rintro e w4 hq;have hq4:=hq.1;have hqe:=hq.2;rw [HIT.out] at hqe;obtain⟨hrd4,hqe⟩:=hqe;rcases hqe with⟨_,rfl⟩|⟨q,_⟩
 case inr=>exact absurd rfl q
 have hgr4:=kR hgr3 hq4;have hown4:=ly hown3 hq4 gN;have hlt4:=hown4.lt;obtain⟨va,vc,rfl⟩:=lD hown4;have hz4:=hgr4.size;obtain⟨w5,hw5⟩:∃w5,w5=w4.alloc (.cells #[.string ⟨(c).toArray⟩,.string ⟨(c).toArray⟩] 93):=⟨_,rfl⟩;obtain⟨hb5,hz5e,hbr5⟩:=lY w4 hw5;have hz5:w4.heap.size+1≤w5.heap.size:=gN;have HOWN5:=ab (lh hown4 hb5);have HRD5:=ab (hrd4.later hb5);have HBR5:=ab hbr5;have hgr5:=kR hgr4 (kS hb5 (some g));clear hq hq4 hrd4 hown3 hown4 hz5e hbr5 HRD3;obtain⟨ir,hir⟩:=info_parts oM;go_upto_region 10 with fail
 rw [←hw5];clear hw5;obtain⟨la,lk,li,ln,l0,l1,l2,l3⟩:=HRD5.out.look0;have HSEE:Hid (∀x:ExtOf w5,Calls Tryz.prog 117 #[.pointer (some ⟨g,0,none⟩)] x.val fun e w'=>e=.returned (.string ⟨(([45]:Str)).toArray⟩)∧Below x.val.heap.size x.val w'):=ab fun x=>(l8 _ (HRD5.out.later x.ext)).mono fun _ _ ⟨h1,h2⟩=>⟨by rw [h1];rfl,h2.below _⟩
 have d0:∀x:ExtOf w5,x.val.cell? ⟨g,0,none⟩=some (.slice la ln lk):=ExtOf.cell l0;have d1:∀x:ExtOf w5,x.val.cell? ⟨g,1,none⟩=some (.int .i64 li):=ExtOf.cell l1;have gg:decide (ln≤li+1)=true:=by simp;omega
 have gg2:decide ((ln:Int)≤(li:Int)+1)=true:=by simp;omega
 have gw:IntKind.i64.wrap ((li:Int)+1)=(li:Int)+1:=IntWalk.i64_in _ gN;clear l0 l1;refine kZ gT gT ?_;repeat (go_big_quiet_step ((go_at_call 117;exact lW (HSEE.out _))))
 refine wpQuiet_nil ?_;rintro _ ⟨xq,rfl⟩;have hbyq:=(xq.ext.block _ (kT (kW HBY2.out hgr5 gN))).trans (kW HBY2.out hgr5 gN);have hrdq:=HRD5.out.later xq.ext;have hgrq:=kR hgr5 (kS xq.ext (some g));generalize xq.val=wq at *
 clear HSEE gg gg2 gw;obtain⟨i,hi9,c1,hf,hr6⟩:=hrdq.step;have HRD6:=ab hr6;have hgr6:=lp hgrq 1 (.int .i64 ((i:Int)+1));have hbyq2:=lK hbyq (a:=⟨g,1,none⟩) gP (.int .i64 ((i:Int)+1));clear hrdq hr6 hbyq;go_wp2_with (go_at_call 138;refine(nw _ HRD6.out).mono ?_)
 rintro e w7 hq;have hq7:=hq.1;obtain⟨hqe',r9,hrd9⟩:e=.returned (.tuple #[.string ⟨#[]⟩,.slice none 0 0,.int .i64 10])∧∃r,Rd w7 g r d:=hq.2;subst hqe';have HRD9:=ab hrd9;clear hrd9;have hgr7:=kR hgr6 hq7;have hgw7:=kR hg2 hgr7;obtain⟨f0,f1,f2,f3,f4,f5,f6,f7,f8⟩:=kY (c:=[]) (kW hbyq2 hq7 gN);clear hq hq7 hbyq2;go_wp2
 refine JM (v:=.tuple #[.agg #[.int .i64 0,.string ⟨([]).toArray⟩,.bool false,.slice none 0 0,.int .i64 0,.int .i64 0,.bool false,.slice none 0 0],.int .i64 10]) io rfl ?_;refine⟨?_,?_⟩
 ·iterate 8 (refine lr ?_ gP _)
  exact hgw7
 ·rw [←HR.out]
  exact fj):p:=h
theorem ay {p:Prop} (h:p:=by
 obtain⟨x,r3⟩:=y;rw [hpr] at hq;obtain⟨hq5,cc,rfl,hxv,hrd5⟩:=hq;have hby5:=kW HBY2.out hq5 gN;have hbl5:Below w.heap.size w w5:=Eg hbw2 hq5 gN;have hz5:=hbl5.size;have hq5z:=hq5.size;obtain⟨k,c,ng,rs,lo,hi,lz,ks,ra,rc,ka,kc,hx,rfl⟩:=hxv.box;have hb6:Below w5.heap.size w5 (w5.alloc (.cells (rxc k c ng ra rs.length rc lo hi lz ka ks.length kc).toArray 38)):=(Below.refl _ _).alloc (Ju _) _;have hbl6:=hbl5.trans (hb6.mono hz5);have HRD6:=ab (hrd5.later hb6);have HXV:=ab ((hxv.mono (S':=fun b=>w.heap.size≤b∧b≠w.heap.size) fun b hb hlt=>by constructor<;>omega).later hb6);have HBY6:=ab ((hb6.block _ (kT hby5)).trans hby5);have HBX6:Hid ((w5.alloc (.cells (rxc k c ng ra rs.length rc lo hi lz ka ks.length kc).toArray 38)).heap[w5.heap.size]?=some (.cells (rxc k c ng ra rs.length rc lo hi lz ka ks.length kc).toArray 38 (0,0))):=ab (heap_alloc_new w5 _);clear hxv hrd5 hby5 hb6;unfold rxc at hbl6 HRD6 HXV HBY6 HBX6 ⊢;cases r3 with
 | nil =>
  have HR2:Hid (Except.ok x=R):=ab jD;have HR:=HR2;rw [hx] at HR HXV;clear hpr hx HR2;go_wp2_with (go_at_call 117;refine(l8 _ HRD6.out).mono ?_)
  rintro e w7 ⟨rfl,hst⟩;have e0:hdS []=[]:=rfl;rw [e0];have hb7:=hst.below w.heap.size;have hbl7:=hbl6.trans hb7;have HXV7:=ab (HXV.out.later (hst.below _));obtain⟨f0,f1,f2,f3,f4,f5,f6,f7,f8⟩:=kY (c:=[]) (((hst.below _).block _ (kT HBY6.out)).trans HBY6.out);obtain⟨e0,e1,e2,e3,e4,e5,e6,e7,e8⟩:=kY (((hst.below _).block _ (kT HBX6.out)).trans HBX6.out);clear hst hb7;go_wp2
  refine JM (v:=.tuple #[.agg #[.int .i64 k,.string ⟨(c).toArray⟩,.bool ng,.slice ra rs.length rc,.int .i64 lo,.int .i64 hi,.bool lz,.slice ka ks.length kc],.int .i64 0]) iI rfl ?_;refine⟨?_,?_⟩
  ·exact gE
  rw [←HR.out];refine⟨rxc k c ng ra rs.length rc lo hi lz ka ks.length kc,rfl,RxV.mono (S:=fun b=>w.heap.size≤b∧b≠w.heap.size) (fun b hb _=>hb.1) ?_⟩;iterate 8 (refine RxV.keep (Kept.setLow _ (fun b hb=>by have:w.heap.size≤b∧b≠w.heap.size:=hb;first|omega|(simp;done)|(simp;omega))) ?_)
  exact HXV7.out
 | cons p r4 =>
  have HR2:Hid (Except.error 10=R):=ab jD;have HR:=HR2;have hp0:=HRD6.out.pos.1;have hp1:List.isEmpty p=false:=by cases p<;>simp at hp0 ⊢
  have hp2:(!List.isEmpty p)=true:=by rw [hp1];rfl
  clear hpr hx HR2 hp0;go_wp2_with (go_at_call 117;refine(l8 _ HRD6.out).mono ?_)
  rintro e w7 ⟨rfl,hst⟩;rw [mw];have hbl7:=hbl6.trans (hst.below w.heap.size);obtain⟨f0,f1,f2,f3,f4,f5,f6,f7,f8⟩:=kY (c:=[]) (((hst.below _).block _ (kT HBY6.out)).trans HBY6.out);clear hst;go_wp2
  refine JM (v:=.tuple #[.agg #[.int .i64 0,.string ⟨([]).toArray⟩,.bool false,.slice none 0 0,.int .i64 0,.int .i64 0,.bool false,.slice none 0 0],.int .i64 10]) iI rfl ?_;refine⟨?_,?_⟩
  ·exact gE
  ·rw [←HR.out];rfl):p:=h
theorem aA {p:Prop} (h:p:=by
 have hb6:Below w2.heap.size w2 (w2.alloc (.cells #[.int .i64 0,.string ⟨#[]⟩,.bool false,.slice none 0 0,.int .i64 0,.int .i64 0,.bool false,.slice none 0 0] 38)):=(Below.refl _ _).alloc (Ju _) _;have HRD6:=ab (hrd9.later hb6);have hg6:=kR hg2 (kS hb6 (some g));have ne1:(q != 0)=true:=by simp [bne,hq0]
 obtain⟨f0,f1,f2,f3,f4,f5,f6,f7,f8⟩:=kY (c:=[]) ((hb6.block _ (kT hby2)).trans hby2);clear hat hby2 hrd9 hb6 hq2;unfold rxv0;go_wp2
 refine JM (v:=.tuple #[.agg #[.int .i64 0,.string ⟨([]).toArray⟩,.bool false,.slice none 0 0,.int .i64 0,.int .i64 0,.bool false,.slice none 0 0],.int .i64 q]) ip rfl ?_;refine⟨?_,?_⟩
 ·iterate 8 (refine lr ?_ gP _)
  exact hg6
 ·rw [←HR.out]
  exact gu):p:=h
theorem aB {p:Prop} (h:p:=by
 refine JM (v:=.tuple #[tfv0,.int .i64 0,.bool false]) (by simp [results,Tryz.results94,go_sem,tfv0,z0,z1,z2,z3,z4,z5,z6,z7,z8,z9,z10]) rfl ⟨?_,by rw [HE.out];try rfl⟩
 (repeat (first|with_reducible exact Below.refl _ _|with_reducible assumption|(refine Below.setCell ?_ ij _)|(refine Below.alloc ?_ gX _)|(refine Below.drew ?_)))):p:=h
theorem aC {p:Prop} (h:p:=by
 obtain⟨x,r3⟩:=y;rw [hres] at hq;obtain⟨hq8,cc,rfl,hxv,hrd9⟩:=hq;have HR2:Hid (Except.ok (x,r3)=R):=ab kM;have HR:=HR2;have hg8:=kR hg1 hq8;have HRD9:=ab hrd9;obtain⟨k,c,ng,rs,lo,hi,lz,ks⟩:=x;have hxv0:=hxv;obtain⟨ra,rc,ka,kc,rfl,hrs,hks⟩:=hxv.open_;have HXV:=ab (hxv0.mono (S':=fun b=>w.heap.size≤b∧b≠w.heap.size) fun b hb hlt=>by have:=hz1;constructor<;>omega);obtain⟨f0,f1,f2,f3,f4,f5,f6,f7,f8⟩:=kY (c:=[]) (kW HBY1.out hq8 gN);clear hres hq8 hrd9 hxv hxv0 hrs hks;unfold rxc at HXV ⊢;go_wp2
 refine JM (v:=.tuple #[.agg #[.int .i64 k,.string ⟨(c).toArray⟩,.bool ng,.slice ra rs.length rc,.int .i64 lo,.int .i64 hi,.bool lz,.slice ka ks.length kc],.int .i64 0]) iw rfl ?_;refine⟨?_,?_⟩
 ·iterate 8 (refine lr ?_ gP _)
  exact hg8
 rw [←HR.out];refine⟨rxc k c ng ra rs.length rc lo hi lz ka ks.length kc,rfl,RxV.mono (S:=fun b=>w.heap.size≤b∧b≠w.heap.size) (fun b hb _=>hb.1) ?_,?_⟩
 ·iterate 8 (refine RxV.keep (Kept.setLow _ (fun b hb=>by have:w.heap.size≤b∧b≠w.heap.size:=hb;first|omega|(simp;done)|(simp;omega))) ?_)
  exact HXV.out
 ·iterate 8 (refine RdT.setHi ?_ gP _)
  exact HRD9.out):p:=h
theorem aD {p:Prop} (h:p:=by
 have hpa:=HPL.out.later xq.ext;have hga:=kS xq.ext (some g);generalize xq.val=wa at *
 clear d0 d1;obtain⟨w4,hw4⟩:∃w4,w4=wa.setCell ⟨g,1,none⟩ (.int .i64 ((i:Int)+1)):=⟨_,rfl⟩;have HP4:Hid (Pl x w4 g s (i+1)):=ab (by have:=hpa.set (j:=i+1) gN;rw [hw4];push_cast at this;exact this);have hg4:w.grownBy w4 (some g):=hw4▸lp hga 1 _;have c1:=hpa.c1;have f1:=hpa.free 1;push_cast at c1
 go_upto_region 4 with fail
 rw [←hw4];clear hw4 hpa hga c1 f1;have e0:∀x':ExtOf w4,x'.val.cell? ⟨g,0,none⟩=some (.string ⟨(s).toArray⟩):=ExtOf.cell HP4.out.c0;have e1:∀x':ExtOf w4,x'.val.cell? ⟨g,1,none⟩=some (.int .i64 ((i:Int)+1)):=ExtOf.cell (by have:=HP4.out.c1;push_cast at this;exact this);have gw:IntKind.i64.wrap ((i:Int)+1-1)=(i:Int):=by rw [show (i:Int)+1-1=i by omega];exact IntWalk.i64_in _ gN
 have gk0:(0:Int)≤(i:Int):=gN;have gk1:(i:Int)<(s.length:Int):=gN;have gk2:((i:Int)).toNat=i:=gN;have h3:=h3c;refine kZ gT gT ?_;repeat (go_big_quiet_step ((fail)))
 refine wpQuiet_nil ?_;rintro _ ⟨xq,rfl⟩;go_wp2
 go_ret
 refine⟨?_,⟨i+1,HP4.out.later xq.ext,hr,by omega⟩,kR hg4 (kS xq.ext (some g))⟩;first|rfl|(simp;done)|(simp;omega)|(simp [h3];done)|(simp [h3];omega)):p:=h
theorem aE {p:Prop} (h:p:=by
 have HE':Hid (R=some (⟨4,n,0,[],t⟩,r2)):=ab kB;clear hU HE;go_enter Tryz.func126,Tryz.ntmps126
 go_wp2_with (first|(go_at_call 125;refine(nE _ _ _ _ gN gN gU).mono ?_;rintro e w1 ⟨rfl,rfl⟩)|(go_at_call 131;refine(rT _ gN gN gN gN HU.out).mono ?_;rintro e w1 ⟨hb1,hlt,j,hj1,hj2,hj3,rfl⟩;obtain⟨hc1,hf1⟩:=ub hb1;have z0:w1.cell? ⟨w.heap.size,0,none⟩=some (.int .i64 0):= gO;have z1:w1.cell? ⟨w.heap.size,1,none⟩=some (.int .i64 0):= gO;have z2:w1.cell? ⟨w.heap.size,2,none⟩=some (.int .i64 0):= gO;have z3:w1.cell? ⟨w.heap.size,3,none⟩=some (.string ⟨#[]⟩):= gO;have z4:w1.cell? ⟨w.heap.size,4,none⟩=some (.string ⟨#[]⟩):= gO;have y0:w1.cell? ⟨w.heap.size+1,0,none⟩=some (.int .i64 4):= gO;have y1:w1.cell? ⟨w.heap.size+1,1,none⟩=some (.int .i64 ↑n):= gO;have y2:w1.cell? ⟨w.heap.size+1,2,none⟩=some (.int .i64 0):= gO;have y3:w1.cell? ⟨w.heap.size+1,3,none⟩=some (.string ⟨#[]⟩):= gO;have y4:w1.cell? ⟨w.heap.size+1,4,none⟩=some (.string ⟨#[]⟩):= gO;have hbw:Below w.heap.size w w1:=((((Below.refl w.heap.size w).alloc (Ju _) _).alloc gU _).trans (hb1.mono gV));have HJ3:=ab hj3;clear hj3))
 refine JM (v:=.tuple #[.agg #[.int .i64 4,.int .i64 n,.int .i64 0,.string ⟨([]).toArray⟩,.string ⟨(t).toArray⟩],.int .i64 (j+1),.bool true]) iG rfl ⟨?_,?_⟩
 ·(repeat (first|with_reducible exact Below.refl _ _|with_reducible assumption|(refine Below.setCell ?_ ij _)|(refine Below.alloc ?_ gX _)|(refine Below.drew ?_)))
 ·rw [HE'.out]
  exact gz):p:=h
theorem aF {p:Prop} (h:p:=by
 have HE':Hid (R=none):=ab kB;clear hU HE;go_enter Tryz.func126,Tryz.ntmps126
 go_wp2_with (first|(go_at_call 125;refine(nE _ _ _ _ gN gN gU).mono ?_;rintro e w1 ⟨rfl,rfl⟩)|(go_at_call 131;refine(qy _ gN gN gN gN HU.out).mono ?_;rintro e w1 ⟨hb1,rfl⟩;obtain⟨hc1,hf1⟩:=ub hb1;have z0:w1.cell? ⟨w.heap.size,0,none⟩=some (.int .i64 0):= gO;have z1:w1.cell? ⟨w.heap.size,1,none⟩=some (.int .i64 0):= gO;have z2:w1.cell? ⟨w.heap.size,2,none⟩=some (.int .i64 0):= gO;have z3:w1.cell? ⟨w.heap.size,3,none⟩=some (.string ⟨#[]⟩):= gO;have z4:w1.cell? ⟨w.heap.size,4,none⟩=some (.string ⟨#[]⟩):= gO;have y0:w1.cell? ⟨w.heap.size+1,0,none⟩=some (.int .i64 4):= gO;have y1:w1.cell? ⟨w.heap.size+1,1,none⟩=some (.int .i64 ↑n):= gO;have y2:w1.cell? ⟨w.heap.size+1,2,none⟩=some (.int .i64 0):= gO;have y3:w1.cell? ⟨w.heap.size+1,3,none⟩=some (.string ⟨#[]⟩):= gO;have y4:w1.cell? ⟨w.heap.size+1,4,none⟩=some (.string ⟨#[]⟩):= gO;have hbw:Below w.heap.size w w1:=((((Below.refl w.heap.size w).alloc (Ju _) _).alloc gU _).trans (hb1.mono gV))))
 refine JM (v:=.tuple #[.agg #[.int .i64 0,.int .i64 0,.int .i64 0,.string ⟨#[]⟩,.string ⟨#[]⟩],.int .i64 0,.bool false]) iG rfl ⟨?_,by rw [HE'.out];rfl⟩
 (repeat (first|with_reducible exact Below.refl _ _|with_reducible assumption|(refine Below.setCell ?_ ij _)|(refine Below.alloc ?_ gX _)|(refine Below.drew ?_)))):p:=h
theorem aG {p:Prop} (h:p:=by
 first|rintro e w1 rfl hb1|rintro e w1 ⟨rfl,hb1⟩
 have hx1:=(hb1.block _ (kT HB1.out)).trans HB1.out;have hx2:=(hb1.block _ (kT HB2.out)).trans HB2.out;have z8:=kU hx1 8 rfl;have y8:w1.cell? ⟨w.heap.size+1,8,none⟩=some (.slice none 0 0):=kU hx2 8 rfl;have HE:Hid (Calls Tryz.prog 63 #[.slice fa 0 fcp,.slice none 0 0] w1 fun e w'=>e=.returned (.bool true)∧Below w1.heap.size w1 w'):=ab (GW fa none fcp 0 [] w1 (HFS.out.keep (Kept.all hb1)).sl (Sl.none_ _ _ _ _) gU);have HX1:=ab hx1;have HX2:=ab hx2;clear hx1 hx2;go_wp2_with (go_at_call 63;refine HE.out.mono ?_)
 first|rintro e w2 rfl hb2|rintro e w2 ⟨rfl,hb2⟩
 have hx1':=(hb2.block _ (kT HX1.out)).trans HX1.out;have hx2':=(hb2.block _ (kT HX2.out)).trans HX2.out;have z9:=kU hx1' 9 rfl;have y9:w2.cell? ⟨w.heap.size+1,9,none⟩=some (.bool false):=kU hx2' 9 rfl;have z10:=kU hx1' 10 rfl;have y10:w2.cell? ⟨w.heap.size+1,10,none⟩=some (.bool false):=kU hx2' 10 rfl;have hbw:=bel2 (bel2 hb0 hb1) hb2;clear hx1' hx2' z8 y8 HE;go_wp2
 go_ret
 exact⟨rfl,hbw⟩):p:=h
theorem aH {p:Prop} (h:p:=by
 first|rintro e w2 rfl hb2|rintro e w2 ⟨rfl,hb2⟩
 have HX2:=ab ((hb2.block _ (kT HX1.out)).trans HX1.out);have z8:=kU (HFCE.out▸HX2.out) 8 rfl;have hbw2:=bel2 (bel2 hb0 hb1) hb2;have HFS2:=ab (Show_any fa fcp 10000 fs w2 (HFS.out.keep (Kept.all ((hb1.trans (hb2.mono hb1.size))))).sl ((HT0.out.keep hb1).keep hb2) HG.out gN HFN.out HMF.out);go_wp2_with (go_at_call 68;refine HFS2.out.mono ?_)
 first|rintro e w3 rfl hb3|rintro e w3 ⟨rfl,hb3⟩
 have HX3:=ab ((hb3.block _ (kT HX2.out)).trans HX2.out);have z10:=kU (HFCE.out▸HX3.out) 10 rfl;have z9:=kU (HFCE.out▸HX3.out) 9 rfl;have hbw3:=bel2 hbw2 hb3;clear z8;go_wp2
 go_ret2
 exact⟨by rw [HFO.out];simp,hbw3⟩):p:=h
theorem aI {p:Prop} (h:p:=by
 by_cases hk0:0<k
 ·by_cases hn:n≤255
  ·have HF3:Hid (some (n,r)=R):=ab (by rw [←HF2.out,Jl ⟨hk0,hn⟩])
   have hnb:decide ((n:Int)≤255)=true:=by simp;omega
   clear HF2;go_wp2
   go_ret2
   exact⟨hg,by rw [←HF3.out];exact⟨rfl,hn,HRD.out⟩⟩
  ·have HF3:Hid (none=R):=ab (by rw [←HF2.out,Jo (fun q=>hn q.2)])
   have hnb:decide ((n:Int)≤255)=false:=by simp;omega
   exact gF
 ·have HF3:Hid (none=R):=ab (by rw [←HF2.out,Jo (fun q=>hk0 q.1)])
  exact gF):p:=h
theorem aJ {p:Prop} (h:p:=by
 have HB:=ab hbv;have HR:Hid (R=false):=ab ji;clear hbv;go_enter Tryz.func71,Tryz.ntmps71
 go_wp2_with (go_at_call 88;refine(om _ HB.out).mono ?_;rintro e w1 ⟨rfl,hb1,hc1⟩;have hq7:=hc1 ⟨w.heap.size,7,none⟩ (.slice ka (ks.length) kc) gU)
 go_ret
 exact⟨lM HR.out.symm,((Below.refl _ _).alloc (Ju _) _).trans (hb1.mono gU)⟩):p:=h
theorem aK {p:Prop} (h:p:=by
 refine JM (v:=.tuple #[.agg #[.int .i64 0,.int .i64 0,.int .i64 0,.string ⟨#[]⟩,.string ⟨#[]⟩],.int .i64 0,.bool false]) jZ rfl ⟨?_,by rw [HE.out];rfl⟩
 (repeat (first|with_reducible exact Below.refl _ _|with_reducible assumption|(refine Below.setCell ?_ ij _)|(refine Below.alloc ?_ gX _)|(refine Below.drew ?_)))):p:=h
theorem aL {p:Prop} (h:p:=by
 have HF2:Hid (lV n (rows++nm) r1=R0):=ab (by rw [←HF.out];simp only [lV,ht,hit];rw [Jl hnm]);have HNM:=ab hnm;clear HF ht hit hrd hok hnm;go_wp2_with (go_at_call 137;refine(lQ _ HRD.out HT.out gU).mono ?_)
 rintro e w3 ⟨rfl,hrd3,hq3⟩;have hgr3:=kR hg hq3;have hown3:=ly HOWN.out hq3 gN;have HRD3:=ab hrd3;clear hrd3 hq3;go_wp2_with (go_at_call 138;refine(nw _ HRD3.out).mono ?_)
 rintro e w4 hq;have hq4:=hq.1;have hqe:=hq.2;rw [HIT.out] at hqe;obtain⟨hrd4,hqe⟩:=hqe;rcases hqe with⟨q,_⟩|⟨_,a,k,rfl,hsl⟩
 ·exact absurd q HNM.out
 have hgr4:=kR hgr3 hq4;have hown4:=ly hown3 hq4 gN;have hlt4:=hown4.lt;obtain⟨va,vc,rfl⟩:=lD hown4;have HOWN4:=ab hown4;have HSL:=ab hsl.sl;have HRD4:=ab hrd4;clear hq hq4 hsl hrd4 hown3 hown4;obtain⟨ir,hir⟩:=info_parts oM;have hz4:=hgr4.size;go_wp2_with (at_builtin;refine lJ w2.heap.size 93 rfl _ _ 35 rfl Tryz.underlying35 hir rfl gR rfl (HOWN4.out) rfl (HSL.out) (n6 nm) gN gN gR hz4 ?_)
 intro v5 w5 hown5 hq5 hb5 _;have hown6:w5.ownsRow w2.heap.size 93 2 v5 (rows++nm).length (lw (rows++nm)):=by
  rw [JA,show lw (rows++nm)=lw rows++lw nm from by simp [lw]];exact hown5
 have hrd5:=HRD4.out.grownHi hq5 (fun k hk=>by have:=(hlt4 k hk).1;omega);have hgr5:w2.grownBy w5 (some g):=pB hgr4 hb5 gN;have hrl5:=uR HRL.out HI4.out;clear hown5 hq5 hb5;go_wp2
 go_roundg n
 case measure=>omega
 case rel=>exact⟨rows++nm,r1,hown6,hrd5,hgr5,by rw [JA];omega,by omega,hrl5,HF2⟩):p:=h
theorem aM {p:Prop} (h:p:=by
 have HE6:Hid (R=some (⟨.mk k ch ng rs lo hii lz ks,fs,true,true⟩,r6)):=ab kH;clear HE5 hfl;go_wp2_with (go_at_call 47;refine(lX _ HIX.out).mono ?_;rintro e w4 ⟨rfl,rfl⟩)
 refine JM (v:=.tuple #[.agg #[.int .i64 k,.string ⟨(ch).toArray⟩,.bool ng,.slice ra rs.length rc,.int .i64 lo,.int .i64 hii,.bool lz,.slice ka ks.length kc,.slice fa fs.length fcp,.bool true,.bool true],.int .i64 (j2+(m+1)),.bool true]) iK rfl ⟨?_,?_⟩
 ·(repeat (first|with_reducible exact Below.refl _ _|with_reducible assumption|(refine Below.setCell ?_ ij _)|(refine Below.alloc ?_ gX _)|(refine Below.drew ?_)))
 ·rw [HE6.out]
  refine⟨_,j2+(m+1),rfl,?_,by omega,by omega,HDR.out⟩;have hT:TfV w3 (fun b=>w.heap.size<b∧b<w3.heap.size) (rxc k ch ng ra rs.length rc lo hii lz ka ks.length kc++[.slice fa fs.length fcp,.bool true,.bool true]) ⟨.mk k ch ng rs lo hii lz ks,fs,true,true⟩ :=
   ⟨_,fa,fcp,HXV3.out.mono fun b hb hlt=>by have h1:=HLT.out;have h2:wr.heap.size≤b:=hb;constructor<;>omega,HSL.out.mono fun b hb hlt=>by have h2:(w1.alloc _).heap.size≤b:=hb;simp only [JO] at h2;constructor<;>omega,rfl⟩
  exact fb):p:=h
theorem aN {p:Prop} (h:p:=by
 rw [hres] at hq;obtain⟨hq8,rfl,r9,hrd9⟩:=hq;have HR2:Hid (Except.error q=R):=ab kM;have HR:=HR2;have hg8:=kR hg1 hq8;have HRD9:=ab hrd9;obtain⟨f0,f1,f2,f3,f4,f5,f6,f7,f8⟩:=kY (c:=[]) (kW HBY1.out hq8 gN);clear hres hq8 hrd9;unfold rxv0;go_wp2
 refine JM (v:=.tuple #[.agg #[.int .i64 0,.string ⟨([]).toArray⟩,.bool false,.slice none 0 0,.int .i64 0,.int .i64 0,.bool false,.slice none 0 0],.int .i64 q]) iw rfl ?_;refine⟨?_,?_⟩
 ·iterate 8 (refine lr ?_ gP _)
  exact hg8
 ·rw [←HR.out]
  exact fj):p:=h
theorem aO {p:Prop} (h:p:=by
 go_wp2_with (go_at_call 69;refine(HN.out _).mono ?_;rintro e w1 ⟨rfl,rfl⟩)
 refine kZ gT gT ?_;repeat (go_big_quiet_step ((fail)))
 refine wpQuiet_nil ?_;rintro _ ⟨xq,rfl⟩;have hpl:=HPL.out.later xq.ext;have hg0:=kS xq.ext (some g);generalize xq.val=wa at *
 clear d0 d1;have f1:=hpl.free 1;have c0:=hpl.c0;have c1:=hpl.c1;have HP2:=ab (hpl.set (j:=k) gN);have hg2:=lp hg0 1 (.int .i64 (k:Int));have HP1:=ab hpl;clear hpl;cases hb:oR ((s.drop i).take (k-i)) with
 | false =>
  have HR2:Hid (R=none):=ab (by rw [HRE.out,hb];rfl);have HNM:Hid (∀w:World,Calls Tryz.prog 53 #[.string ⟨((s.drop i).take (k-i)).toArray⟩] w fun e w'=>e=.returned (.bool false)∧w=w'):=ab (fun w=>by rw [←hb];exact wn _ w gV);clear hb HRE;go_wp2_with (go_at_call 53;refine(HNM.out _).mono ?_;rintro e w1 ⟨rfl,rfl⟩)
  go_ret2
  exact⟨hg0,by rw [HR2.out];exact⟨rfl,HP1.out⟩⟩
 | true =>
  have HR2:Hid (R=some ((s.drop i).take (k-i),s.drop k)):=ab (by rw [HRE.out,hb];rfl);have HNM:Hid (∀w:World,Calls Tryz.prog 53 #[.string ⟨((s.drop i).take (k-i)).toArray⟩] w fun e w'=>e=.returned (.bool true)∧w=w'):=ab (fun w=>by rw [←hb];exact wn _ w gV);have hik:i<k:=by
   rcases Nat.lt_or_ge i k with h|h
   ·exact h
   ·rw [show k-i=0 by omega] at hb;cases hb
  have HB:=ab hb;clear hb HRE;go_wp2_with (go_at_call 53;refine(HNM.out _).mono ?_;rintro e w1 ⟨rfl,rfl⟩)
  go_ret2
  exact⟨hg2,by rw [HR2.out];exact⟨HB.out,rfl,k,HP2.out,rfl,hik⟩⟩):p:=h
theorem aP {p:Prop} (h:p:=by
 iterate 8 (refine RxV.keep (Kept.setLow _ (fun b hb=>by have:w.heap.size≤b∧b≠w.heap.size:=hb;first|omega|(simp;done)|(simp;omega))) ?_)
 exact(RxV.close (SlS.none_ _ _ _ _) ⟨[],SlS.none_ _ _ _ _,.nil⟩)):p:=h
theorem aQ {p:Prop} (h:p:=by
 have HR2:Hid (Except.error q=R):=ab (by rw [←HR.out];simp only [hpr]);have HR:=HR2;have hg5:=kR hgd hq5;have hby5:=kW HBYD.out hq5 gN;have hb6:Below w5.heap.size w5 (w5.alloc (.cells #[.int .i64 0,.string ⟨#[]⟩,.bool false,.slice none 0 0,.int .i64 0,.int .i64 0,.bool false,.slice none 0 0] 38)):=(Below.refl _ _).alloc (Ju _) _;have hrd6:=hrd9.later hb6;have c6:=hrd6.cell2;have hf6:=hrd6.free2;have HRD7:=ab (hrd6.setDeep (.int .i64 (d:Int)));have hg7:=lp (kR hg5 (kS hb6 (some g))) 2 (.int .i64 (d:Int));have ed:((d+1:Nat):Int)-1=d:=gN;have ne1:(q != 0)=true:=by simp [bne,hq0]
 obtain⟨f0,f1,f2,f3,f4,f5,f6,f7,f8⟩:=kY (c:=[]) (lK ((hb6.block _ (kT hby5)).trans hby5) (a:=⟨g,2,none⟩) gP (.int .i64 (d:Int)));clear hpr hby5 hrd9 hrd6 hb6;unfold rxv0;go_wp2
 refine JM (v:=.tuple #[.agg #[.int .i64 0,.string ⟨([]).toArray⟩,.bool false,.slice none 0 0,.int .i64 0,.int .i64 0,.bool false,.slice none 0 0],.int .i64 q]) iX rfl ?_;refine⟨?_,?_⟩
 ·iterate 8 (refine lr ?_ gP _)
  exact hg7
 ·rw [←HR.out]
  refine⟨rfl,?_⟩;iterate 8 (refine RdE.setHi ?_ gP _)
  exact⟨_,HRD7.out⟩):p:=h
theorem aR {p:Prop} (h:p:=by
 have HF2:Hid (none=R0):=ab (by rw [←HF.out];simp only [lV,ht,hit]);have HR2:Hid (Except.error 10=R):=ab jq;have HR:=HR2;have HIT:=ab hit;clear HF ht hit hrd hown hrl hok;go_wp2_with (go_at_call 137;refine(lQ _ HRD.out HT.out gU).mono ?_)
 rintro e w3 ⟨rfl,hrd3,hq3⟩;have hgr3:=kR hg hq3;have HRD3:=ab hrd3;clear hrd3 hq3;go_wp2_with (go_at_call 138;refine(nw _ HRD3.out).mono ?_)
 rintro e w4 hq;have hq4:=hq.1;have hqe:=hq.2;rw [HIT.out] at hqe;obtain⟨hqe',r9,hrd9⟩:e=.returned (.tuple #[.string ⟨#[]⟩,.slice none 0 0,.int .i64 10])∧∃r,Rd w4 g r d:=hqe;subst hqe';have HRD9:=ab hrd9;clear hrd9;have hgr4:=kR hgr3 hq4;have hgw4:=kR hg2 hgr4;obtain⟨f0,f1,f2,f3,f4,f5,f6,f7,f8⟩:=kY (c:=[]) (kW HBY2.out hgr4 gN);clear hq hq4;go_wp2
 refine JM (v:=.tuple #[.agg #[.int .i64 0,.string ⟨([]).toArray⟩,.bool false,.slice none 0 0,.int .i64 0,.int .i64 0,.bool false,.slice none 0 0],.int .i64 10]) io rfl ?_;refine⟨?_,?_⟩
 ·iterate 8 (refine lr ?_ gP _)
  exact hgw4
 ·rw [←HR.out]
  exact fj):p:=h
theorem aS {p:Prop} (h:p:=by
 iterate 9 (refine RxV.keep (Kept.setLow _ (fun b hb=>by have:B≤b∧b≠w.heap.size+1∧b≠w.heap.size+3:=hb;first|omega|(simp;done)|(simp;omega))) ?_)
 exact(RxV.close (SlS.none_ _ _ _ _) HKS3.out)):p:=h
theorem aT {p:Prop} (h:p:=by
 have:=HF.out
 have hje:j=i:=gN;subst hje;cases k with
 | zero=>exact this.symm
 | succ k=>simp only [bs] at this;rw [Jo gN] at this;exact this.symm):p:=h
theorem aU {p:Prop} (h:p:=by
 have HB9:=ab (mF (w:=W5) (cs:=#[.int .i64 0,.string ⟨#[]⟩,.int .i64 0,.bool false,.bool false,.int .i64 0,.string ⟨#[]⟩,.bool false,.slice none 0 0,.int .i64 0,.int .i64 0,.bool false,.slice none 0 0,.slice none 0 0,.bool false,.bool false,.slice none 0 0,.slice none 0 0]) HBX5.out);go_wp2_with (refine ll rfl 44 (.tmp 2) (.tmp 37) rfl (w.heap.size) (#[.int .i64 0,.string ⟨#[]⟩,.int .i64 0,.bool false,.bool false,.int .i64 0,.string ⟨#[]⟩,.bool false,.slice none 0 0,.int .i64 0,.int .i64 0,.bool false,.slice none 0 0,.slice none 0 0,.bool false,.bool false,.slice none 0 0,.slice none 0 0]) rfl rfl 44 _ (HBX5.out) (ld) rfl rfl (HZO.out) (W:=((W5).setRow w.heap.size #[.int .i64 0,.string ⟨#[]⟩,.int .i64 0,.bool false,.bool false,.int .i64 0,.string ⟨#[]⟩,.bool false,.slice none 0 0,.int .i64 0,.int .i64 0,.bool false,.slice none 0 0,.slice none 0 0,.bool false,.bool false,.slice none 0 0,.slice none 0 0])) (rfl) ?_)
 refine JM (nv Tryz.results59 kX ld HB9.out rfl rfl rfl) rfl ?_;rw [HE.out];exact⟨HG5.out.setRow (Ju _) _,S,_,_,_,false,rfl,HRS5.out.setRow hnb _,fun _ h=>h,fun _ h=>.inl h,BX _ S,rfl,fun h=>by cases h⟩):p:=h
theorem aV {p:Prop} (h:p:=by
 rw [hpr] at hq;obtain⟨hq5,rfl,r9,hrd9⟩:=hq;have hq0:q≠0:=pU _ _ _ q hpr;have HR2:Hid (Except.error q=R):=ab jD;have HR:=HR2;have hby5:=kW HBY2.out hq5 gN;have hbl5:Below w.heap.size w w5:=Eg hbw2 hq5 gN;have hz5:=hbl5.size;have hb6:Below w5.heap.size w5 (w5.alloc (.cells #[.int .i64 0,.string ⟨#[]⟩,.bool false,.slice none 0 0,.int .i64 0,.int .i64 0,.bool false,.slice none 0 0] 38)):=(Below.refl _ _).alloc (Ju _) _;have hbl6:=hbl5.trans (hb6.mono hz5);have ne1:(q==0)=false:=JP.2 hq0;have ne2:(q != 0)=true:=by simp [bne,ne1]
 obtain⟨f0,f1,f2,f3,f4,f5,f6,f7,f8⟩:=kY (c:=[]) ((hb6.block _ (kT hby5)).trans hby5);clear hpr hby5 hrd9 hb6 hq5;unfold rxv0;go_wp2
 refine JM (v:=.tuple #[.agg #[.int .i64 0,.string ⟨([]).toArray⟩,.bool false,.slice none 0 0,.int .i64 0,.int .i64 0,.bool false,.slice none 0 0],.int .i64 q]) iI rfl ?_;refine⟨?_,?_⟩
 ·iterate 8 (refine Below.setCell ?_ gP _)
  exact hbl6
 ·rw [←HR.out];rfl):p:=h
theorem aW {p:Prop} (h:p:=by
 rw [←hnb];have hbx:Below w6.heap.size w6 (w6.alloc (.cells #[.int .u8 nb.toNat] 5)):=(Below.refl _ _).alloc (Ju _) _;have HR7:=ab (hr6.later hbx);have HO7:=ab (ho6.later hbx);have HT7:=ab (lh ht6 hbx);have HG7:=ab (hg6'.trans (Gr2.below hbx));have HSL:=ab (Sl.lit (n:=1) (sz:=1) (heap_alloc_new w6 (.cells #[.int .u8 nb.toNat] 5)) rfl);have hz6:=hg6'.size;clear hr6 ho6 ht6 hg6' hg6 hp2 hd2 HNX HR5 HO5 HT5 HG5 HXN hbx hnb;go_wp2_with (at_builtin;refine lJ w.heap.size 5 rfl _ _ 52 rfl Tryz.underlying52 hiu rfl gR rfl HT7.out rfl HSL.out ii gN gN gR gV ?_;intro v8 w8 hown8 hg8 _ hm8)
 go_roundg (s.length-j4)
 case measure=>omega
 case rel =>
  exact⟨_,_,S4,j2,o,t++[nb],rfl,rfl,HR7.out.grow HN74.out (fun k hk=>(HT7.out.lt k hk).1) hgB hg8,by omega,by omega,HS14.out,HS24.out,HO7.out.other HN74.out (ownN_own HO7.out HT7.out) hg8,by simpa [mt] using hown8,HG7.out.row (fun k hk=>(HT7.out.lt k hk).1) (Ju _) hg8,by omega,by simp;omega,HN64.out,HN74.out.moved hm8 HR7.out.lt,HX2⟩):p:=h
theorem aX {p:Prop} (h:p:=by
 go_ret
 exact⟨lM HR2.out.symm,((Below.refl _ _).alloc (Ju _) _).trans (hb1.mono gU)⟩):p:=h
theorem aY {p:Prop} (h:p:=by
 have HR2:Hid (Except.error 10=R):=ab kq;have HR:=HR2;have HT:=ab ht;have HRD8:=HRD7;rw [hw6] at HRD8;have HW6:=ab hw6;clear hpr ht hw6;go_wp2_with (go_at_call 137;refine(lQ _ HRD8.out HT.out gU).mono ?_)
 rintro e w9 ⟨rfl,hrd9,hq9⟩;rw [←HW6.out] at hq9;have hg9:=kR hg7 hq9;have HRD9:=ab hrd9;obtain⟨f0,f1,f2,f3,f4,f5,f6,f7,f8⟩:=kY (c:=[]) (kW HBY7.out hq9 gN);clear hrd9 hq9 c6 hf6;go_wp2
 refine JM (v:=.tuple #[.agg #[.int .i64 0,.string ⟨([]).toArray⟩,.bool false,.slice none 0 0,.int .i64 0,.int .i64 0,.bool false,.slice none 0 0],.int .i64 10]) iX rfl ?_;refine⟨?_,?_⟩
 ·iterate 8 (refine lr ?_ gP _)
  exact hg9
 ·rw [←HR.out]
  exact fj):p:=h
theorem aZ {p:Prop} (h:p:=by
 first|rintro e w1 rfl hbl1 hfr1|rintro e w1 ⟨rfl,hbl1,hfr1⟩
 go_wp2
 go_end0
 exact⟨rfl,by simpa [Rx.tell] using hbl1,((Fr.refl _ _ _ _).alloc _).trans hfr1⟩):p:=h
theorem ba {p:Prop} (h:p:=by
 go_enter Tryz.func62,Tryz.ntmps62
 go_upto_region 1 with fail
 rw [←hw0];clear hw0;go_wp2_with (go_at_call 78;refine HEQ'.out.mono ?_)
 first|rintro e w1 rfl hb1|rintro e w1 ⟨rfl,hb1⟩
 obtain⟨e0,e1,e2,e3,e4,e5,e6,e7,e8⟩:=kY ((hb1.block _ (kT HX1.out)).trans HX1.out);obtain⟨d0,d1,d2,d3,d4,d5,d6,d7,d8⟩:=kY ((hb1.block _ (kT HX2.out)).trans HX2.out);replace hbn:=bel2 hbn hb1;go_wp2
 go_ret
 exact⟨rfl,hbn⟩):p:=h
theorem bb {p:Prop} (h:p:=by
 go_enter Tryz.func57,Tryz.ntmps57
 go_wp2_with (go_at_call 33;refine(sd _ _ gN gN HT.out).mono ?_)
 first|rintro e w1 rfl hb1|rintro e w1 ⟨rfl,hb1⟩
 have HT2:=ab (HT.out.keep hb1);go_wp2_with (go_at_call 33;refine(sd _ _ gN gN HT2.out).mono ?_)
 first|rintro e w2 rfl hb2|rintro e w2 ⟨rfl,hb2⟩
 go_wp2
 go_ret
 exact⟨ue (by rw [HR2.out]<;>simp),hb1.trans (hb2.mono hb1.size)⟩):p:=h
theorem bc {p:Prop} (h:p:=by
 go_wp2
 have hxs1:=HXS.out.later hbl1;refine JM (v:=.tuple #[.agg #[.int .i64 k,.string ⟨(c).toArray⟩,.bool ng,.slice ra rs.length rc,.int .i64 lo,.int .i64 hi,.bool lz,.slice ka ks.length kc],.int .i64 0]) g8 rfl ?_;refine⟨?_,?_⟩
 ·iterate 8 (refine lr ?_ gP _)
  exact hgw1
 rw [←HR.out];refine⟨rxc k c ng ra rs.length rc lo hi lz ka ks.length kc,rfl,RxV.mono (S:=fun b=>B≤b∧b≠w.heap.size+1∧b≠w.heap.size+3) (fun b hb _=>hb.1) ?_,?_⟩
 ·iterate 8 (refine RxV.keep (Kept.setLow _ (fun b hb=>by have:B≤b∧b≠w.heap.size+1∧b≠w.heap.size+3:=hb;first|omega|(simp;done)|(simp;omega))) ?_)
  exact hxs1
 ·iterate 8 (refine RdT.setHi ?_ gP _)
  exact HRD1.out):p:=h
theorem bd {p:Prop} (h:p:=by
 by_cases hk0:k=0
 ·subst hk0
  have hRn:Hid (R=none):=ab (by rw [←HF'.out];(unfold nf;rw [Jo hdg,Jo gN]));exact fD
 ·have hRs:Hid (R=some (m,c::r)):=ab (by rw [←HF'.out];(unfold nf;rw [Jo hdg,Jl gN]))
  exact fK):p:=h
theorem be {p:Prop} (h:p:=by
 go_wp2_with (first
  | (refine kV rfl 44 (.tmp 12) rfl b (o+(i)*18) rfl cc _ hrg kX rfl gY ?_)
  | (refine ll rfl 44 (.tmp 6) (.tmp 13) rfl (wr.heap.size) (cc.toArray) rfl rfl 44 _ (heap_alloc_new wr _) (ld) iH rfl (HONE.out) (W:=W5) (HW5.out) ?_)
  | (refine kV rfl 44 (.tmp 6) rfl wr.heap.size 0 rfl cc _ (lc (ds:=[]) jx) kX rfl gY ?_)
  | (go_at_call 36;refine HFLD.out.mono ?_))
 first|rintro e w1 rfl hb1|rintro e w1 ⟨rfl,hb1⟩
 obtain⟨q0,_,_,q3,_,_,q17,_⟩:=HA.out.box ((hb1.block _ (kT HBX.out)).trans HBX.out);have hbw1:=bel2 (bel2 HB.out HB5.out) hb1;go_wp2
 go_roundw
 case rel=>exact⟨i+1,by go_num,by omega,hbw1,HEQ⟩
 case measure=>simp [intOf];omega):p:=h
theorem bf {p:Prop} (h:p:=by
 clear HR;go_enter Tryz.func100,Tryz.ntmps100
 go_wp2_with (go_at_call 112;refine(tu ⟨_,n,cse,thn,els⟩ _ _ _ _ _).mono ?_;rintro e w1 ⟨rfl,hb1⟩)
 go_ret
 exact⟨lM HS.out.symm,((Below.refl _ _).alloc (Ju _) _).trans (hb1.mono gU)⟩):p:=h
theorem bg {p:Prop} (h:p:=by
 first|rintro e w1 rfl hb1|rintro e w1 ⟨rfl,hb1⟩
 go_wp2
 go_ret
 exact⟨rfl,bel2 hb0 hb1⟩):p:=h
theorem bh {p:Prop} (h:p:=by
 intro L a w' hL hd hI;obtain⟨V,rfl,⟨hf,q0,q1,v0,v1,v2,v3⟩⟩:=hI;simp [lm,Region.binds] at hd
 simp only [mW];go_wp2
 exact⟨upd V 2 (.pointer (some ⟨w1.heap.size,19,none⟩)),(by simp [upd]),⟨hf,(fun h=>q0 gQ),(fun h=>q1 gQ),(fun h=>v0 gQ),(fun h=>v1 gQ),(fun _=>rfl),(fun h=>v3 gQ)⟩⟩):p:=h
theorem bi {p:Prop} (h:p:=by
 intro L a w' hL hd hI;obtain⟨V,rfl,⟨hf,q0,q1,v0,v1,v2,v3⟩⟩:=hI;simp [lm,Region.binds] at hd
 simp only [mW];go_wp2
 exact⟨upd V 0 (.pointer (some ⟨w1.heap.size,0,none⟩)),(by simp [upd]),⟨hf,(fun h=>q0 gQ),(fun h=>q1 gQ),(fun _=>rfl),(fun h=>v1 gQ),(fun h=>v2 gQ),(fun h=>v3 gQ)⟩⟩):p:=h
theorem bj {p:Prop} (h:p:=by
 have HO:Hid (okB (.mk k c ng rs lo hi lz ks) left dp=false):=ab (by
  rw [DV,hG];rcases hld with h|h
  ·rw [JT (by omega:¬1≤left)];rfl
  ·simp;omega)
 clear hF;go_enter Tryz.func54,Tryz.ntmps54
 go_wp2_with (first|(go_at_call 70;refine(tj _ _).mono ?_;rintro e w1 ⟨rfl,rfl⟩;rw [hG])|(go_at_call 71;refine(tG _ HF.out HRS.out HX0.out HS1.out).mono ?_;rintro e w1 ⟨rfl,hb1,hc1⟩;have z1:=hc1 ⟨w.heap.size,7,none⟩ (.slice ka ks.length kc) gU))
 all_goals first
  | (exfalso;omega)
  | (go_ret2;refine⟨⟨left,by rw [HO.out];rfl,fun h=>by rw [HO.out] at h;cases h⟩,?_⟩;first|exact(Below.refl _ _).alloc (Ju _) _|exact((Below.refl _ _).alloc (Ju _) _).trans (hb1.mono gU))):p:=h
theorem bk {p:Prop} (h:p:=by
 go_wp2_with (first
  | (refine kV rfl 44 (.tmp 12) rfl b (o+(i)*18) rfl cc _ hrg kX rfl gY ?_)
  | (refine ll rfl 44 (.tmp 6) (.tmp 13) rfl (wr.heap.size) (cc.toArray) rfl rfl 44 _ (heap_alloc_new wr _) (ld) iH rfl (HONE.out) (W:=W5) (HW5.out) ?_)
  | (refine kV rfl 44 (.tmp 6) rfl wr.heap.size 0 rfl cc _ (lc (ds:=[]) jx) kX rfl gY ?_)
  | (go_at_call 36;refine HFLD.out.mono ?_))
 first|rintro e w1 rfl hb1|rintro e w1 ⟨rfl,hb1⟩
 obtain⟨q0,_,_,q3,_,_,q17,_⟩:=HA.out.box ((hb1.block _ (kT HBX.out)).trans HBX.out);have hbw1:=bel2 (bel2 HB.out HB5.out) hb1;go_wp2
 go_ret
 exact⟨by rw [HR0.out];rfl,hbw1⟩):p:=h
theorem bl {p:Prop} (h:p:=by
 first|exact(hbw2.trans (hb3.mono hz2)).trans (hfr4.below (by have:=hb3.size;omega) gV)|exact hbw2.trans (hfr4.below hz2 gV)):p:=h
theorem bm {p:Prop} (h:p:=by
 have HF:=ab hF;have HO:Hid (okB (.mk k c ng rs lo hi lz ks) left dp=false):=ab (by rw [DV,hF];simp);clear hF;go_enter Tryz.func54,Tryz.ntmps54
 go_wp2_with (first|(go_at_call 70;refine(tj _ _).mono ?_;rintro e w1 ⟨rfl,rfl⟩;rw [hG])|(go_at_call 71;refine(tG _ HF.out HRS.out HX0.out HS1.out).mono ?_;rintro e w1 ⟨rfl,hb1,hc1⟩;have z1:=hc1 ⟨w.heap.size,7,none⟩ (.slice ka ks.length kc) gU))
 all_goals
  (go_ret2;refine⟨⟨left,by rw [HO.out];rfl,fun h=>by rw [HO.out] at h;cases h⟩,?_⟩;first|exact(Below.refl _ _).alloc (Ju _) _|exact((Below.refl _ _).alloc (Ju _) _).trans (hb1.mono gU))):p:=h
theorem bn {p:Prop} (h:p:=by
 obtain⟨rfl,hwc⟩:=hcut;replace hwc:=hwc.symm;subst hwc;go_wp2
 go_ret
 exact⟨rfl,hb0⟩):p:=h
theorem bp {p:Prop} (h:p:=by
 refine hcall.mono fun e W' ⟨he,hg⟩=>?_
 subst he;exact⟨_,rfl,zS (pv:=[]) hW' (fun _ _ _=>(trodAll_cons_mk (shut_bool Tryz.underlying4 _) trodAll_mk0)) (fun sp hsp=>hagain W' hg sp (fun x hx=>hsp x (List.mem_append_left _ hx))) (fun _ _=>rfl) rfl hg (ok_one gT rfl (okWide_bool_mk Tryz.underlying4 _))⟩):p:=h
theorem bq {p:Prop} (h:p:=by
 intro k;induction k with
 | zero=>intro _;exact hLt
 | succ k ih =>
  intro hk;have h1:=ih gN;obtain⟨ok,hok⟩:∃ok,ops[t-k]?=some ok:=⟨_,Jn gN⟩;have h2:=zQ hch (t:=t-k) gN (by simpa using hok) (hclo _ ok (by simpa using hok) h1);rw [show t-(k+1)=t-k-1 by omega];exact h2):p:=h
theorem bu {p:Prop} (h:p:=by
 first|rintro e w12 rfl hb12|rintro e w12 ⟨rfl,hb12⟩
 have hbw12:=bel2 hbw11 hb12;go_wp2_with (go_at_call 9;refine(HAW.out _ (HT.out.keep hbw12)).mono ?_;rintro e w9 ⟨rfl,hb9⟩)
 go_ret
 exact⟨rfl,bel2 hbw12 hb9⟩):p:=h
theorem bv {p:Prop} (h:p:=by
 obtain⟨t,rfl,rfl⟩:=hq;obtain⟨f0,f1,f2,f3,f4,f5,f6,f7,f8⟩:=kY (c:=[]) HBY1.out;go_wp2
 refine JM (v:=.tuple #[.agg #[.int .i64 0,.string ⟨([]).toArray⟩,.bool false,.slice none 0 0,.int .i64 0,.int .i64 0,.bool false,.slice none 0 0],.int .i64 10]) ie rfl ?_;refine⟨?_,?_⟩
 ·iterate 8 (refine lr ?_ gP _)
  exact hg1
 ·rw [←HR.out]
  exact fM):p:=h
theorem bw {p:Prop} (h:p:=by
 go_enter Tryz.func57,Tryz.ntmps57
 go_wp2_with (go_at_call 33;refine(sd _ _ gN gN HT.out).mono ?_;rintro e w1 ⟨rfl,hb1⟩)
 go_ret
 exact⟨ue (by rw [HR2.out]<;>simp),hb1⟩):p:=h
theorem bA {p:Prop} (h:p:=by
 go_region_law (refine qw w.heap.size 5 (w:=wr.drew) rfl rfl _ _ 52 rfl Tryz.underlying52 hiu rfl gR rfl k3 rfl iV rfl ii gN gR hB ?_;intro v1 w2 hown1 hg1 _ _;obtain⟨a1,c1,rfl,d1,d2,hrs1,hbl1⟩:=RS.text_app (w:=wr.drew) hrs k1 hown1 hg1 hB)
 all_goals
  go_wp2
  go_roundw
  case rel =>
   refine⟨j+1,tx++[c],fs,by omega,by omega,by go_num,hrs1,Below.trans hb.drew hbl1,by simp;omega,by omega,ab km,HLO,ab ?_⟩;rw [Hr.out,←HE.out]
  case measure=>simp [intOf];omega):p:=h
theorem bB {p:Prop} (h:p:=by
 iterate 9 (refine RdT.setHi ?_ gP _)
 exact HRD3.out):p:=h
theorem bC {p:Prop} (h:p:=by
 iterate 9 (refine lr ?_ gP _)
 exact hgw3):p:=h
theorem bD {p:Prop} (h:p:=by
 exact⟨a,m,b,by first|rfl|go_num|(simp;omega),by first|rfl|go_num|(simp;omega),by omega,by omega,by omega,by omega,HRO.out,lF _ _,HT⟩):p:=h
theorem bE {p:Prop} (h:p:=by
 subst hij2;clear HF hk hi hj;go_wp2_with (go_at_call 152;refine(HC1.out _ hro).mono ?_)
 first|rintro e w6 rfl hr6 hh6|rintro e w6 ⟨rfl,hr6,hh6⟩
 have hg6:=kR hg hh6;clear hh6;go_wp2_with (go_at_call 151;refine(HC2.out _ hr6).mono ?_)
 first|rintro e w7 rfl hr7 hh7|rintro e w7 ⟨rfl,hr7,hh7⟩
 have hg7:=kR hg6 hh7;clear hh7;go_wp2_with (go_at_call 151;refine(HC3.out _ hr7).mono ?_)
 first|rintro e w8 rfl hr8 hh8|rintro e w8 ⟨rfl,hr8,hh8⟩
 have hg8:=kR hg7 hh8;clear hh8;go_wp2
 go_end0
 exact⟨rfl,hr8,hg8⟩):p:=h
theorem bF {p:Prop} (h:p:=by
 first|rintro e w1 rfl hb1|rintro e w1 ⟨rfl,hb1⟩
 go_wp2_with (go_at_call 9;refine(HAW.out _ (HT.out.keep hb1)).mono ?_;rintro e w9 ⟨rfl,hb9⟩)
 go_ret
 exact⟨rfl,bel2 hb1 hb9⟩):p:=h
theorem bG {p:Prop} (h:p:=by
 clear hd HS hr c47 c92;go_wp2_with (at_builtin;refine mA w.heap.size 5 rfl _ _ 52 rfl Tryz.underlying52 hiu rfl gR rfl hown rfl iV rfl ii gN gR hB ?_;intro v1 w1 hown1 hg1 hb1 hne1)
 go_roundw
 case rel =>
  refine⟨(j+1),(a++[c]),by omega,by omega,by go_num,?_,?_,hb.trans hb1,by simp;omega,HS2⟩
  ·simpa [mt] using hown1
  ·exact gD
 case measure=>simp [intOf];omega):p:=h
theorem bH {p:Prop} (h:p:=by
 go_wp2
 exact⟨V,(by first|rfl|exact⟨h0.symm,h1.symm,rfl,rfl⟩),⟨(nj _ gN).trans hf,(fun h=>by simp at h),(fun _=>rfl),(fun h=>v0 gQ),(fun h=>v1 gQ),(fun h=>v2 gQ),(fun h=>v3 gQ)⟩⟩):p:=h
theorem bI {p:Prop} (h:p:=by
 cases r with
 | nil=>cases h
 | cons c2 r2 =>
  simp only [escM] at h;cases hn:nF c2 with
  | some rows=>simp only [hn] at h;injection h with h;injection h with ha _;subst ha;rfl
  | none =>
   simp only [hn] at h;cases hb:bigS c2 with
   | some rows=>simp only [hb] at h;injection h with h;injection h with ha _;subst ha;rfl
   | none =>
    simp only [hb] at h;cases hpm:mR c2 with
    | none=>exact gq
    | some t=>simp only [hpm] at h;injection h with h;injection h with ha _;subst ha;rfl):p:=h
theorem bJ {p:Prop} (h:p:=by
 unfold Oper.wp at *;generalize (execOp a.eval o).run P w=r at *
 cases r with
 | ok n w' =>
  cases n<;>simp only [Oper.upon] at h ⊢<;>first|exact h|exact h.mono (fun e w'' he=>by cases e<;>exact he)
 | halt x w'=>cases x<;>simp only [Oper.upon] at h ⊢<;>exact h):p:=h
theorem bK {p:Prop} (h:p:=by
 have:r=[]:=Jm gN
 subst this;rw [G6] at hp;cases hp):p:=h
theorem bL {p:Prop} (h:p:=by
 refine⟨rxc yk yc yn ya yr.length yrc yl yh yz yka ys.length ykc,rfl,RxV.mono (S:=fun b=>w.heap.size+1≤b) (fun b hb _=>by have:w.heap.size+1≤b:=hb;show w.heap.size≤b;omega) (RxV.close ?_ ?_),?_⟩
 ·iterate 8 (refine SlS.keep ?_ (Kept.setLow _ (fun b hb=>by have:w.heap.size+1≤b:=hb;simp;omega)))
  exact HYR.out
 ·iterate 8 (refine RxSl.keep ?_ (Kept.setLow _ (fun b hb=>by have:w.heap.size+1≤b:=hb;simp;omega)))
  exact HYX.out
 ·iterate 8 (refine Below.setCell ?_ gU _)
  exact hbw1):p:=h
theorem bM {p:Prop} (h:p:=by
 go_ret
 exact⟨lM HR2.out.symm,(((Below.refl _ _).alloc (Ju _) _).trans (hb1.mono gU)).trans ((((Below.refl w1.heap.size w1).alloc (Ju _) _).trans (hb2.mono gU)).mono kj)⟩):p:=h
theorem bN {p:Prop} (h:p:=by
 iterate 8 (refine RxV.keep (Kept.setLow _ (fun b hb=>by have:w.heap.size≤b∧b≠w.heap.size:=hb;first|omega|(simp;done)|(simp;omega))) ?_)
 exact HV.out):p:=h
theorem bO {p:Prop} (h:p:=by
 obtain⟨V,hV⟩:=nT A0 [25,26,27,28,29,30,31,32];exact⟨V,⟨hV⟩,⟨HX5.out,fun _=>HB5.out,(fun h=>by cases h),HG5.out.trans (Gr2.below ((Below.refl _ _).drew)),fun _=>HR5.out.later ((Below.refl _ _).drew),(fun h=>by cases h),HVX.out.later ((Below.refl _ _).drew),(fun h=>by cases h),(fun h=>by cases h),(fun h=>by cases h),(fun h=>by cases h),(fun h=>by cases h),(fun h=>by cases h),(fun h=>by cases h),(fun h=>by cases h)⟩⟩):p:=h
theorem bP {p:Prop} (h:p:=by
 injection h with h;injection h with h _;subst h
 exact⟨by simp [mayF,m7];omega,by simp⟩):p:=h
theorem bQ {p:Prop} (h:p:=by
 go_wp2_with (go_at_call 34;refine(lv B g (_) (125) _ hbl3 ia gN gN gN).mono ?_)
 first|rintro e w4 rfl hbl4 hfr4|rintro e w4 ⟨rfl,hbl4,hfr4⟩
 have HBL4:=ab hbl4;have HFR4:=ab ((((HF0.out.trans hfr1).trans hfr2).trans hfr3).trans hfr4);clear hbl1 hbl2 hbl3 hbl4 hfr1 hfr2 hfr3 hfr4;go_wp2
 go_end0
 refine⟨rfl,?_,HFR4.out⟩;have h:=HBL4.out;simpa [brT] using h):p:=h
theorem bS {p:Prop} (h:p:=by
 exact⟨LO,M,b,by first|rfl|go_num|(simp;omega),by first|rfl|go_num|(simp;omega),by omega,by omega,by omega,by omega,HRO.out,lF _ _,HT⟩):p:=h
theorem bT {p:Prop} (h:p:=by
 obtain⟨V,hV⟩:=nT _ [58,59,60,61];exact⟨V,hV,⟨(by rw [HFB.out];exact HF6.out),(fun _=>rfl),(fun h=>by cases h),(fun h=>by cases h),(fun h=>by cases h),(fun h=>by cases h),(fun h=>by cases h)⟩⟩):p:=h
theorem bU {p:Prop} (h:p:=by
 first|rintro e w4 rfl hb4|rintro e w4 ⟨rfl,hb4⟩
 have hbw4:=bel2 hbw3 hb4;go_wp2_with (go_at_call 9;refine(HAW.out _ (HT.out.keep hbw4)).mono ?_;rintro e w9 ⟨rfl,hb9⟩)
 go_ret
 exact⟨rfl,bel2 hbw4 hb9⟩):p:=h
theorem bV {p:Prop} (h:p:=by
 iterate 8 (refine lr ?_ gP _)
 exact hg2):p:=h
theorem bW {p:Prop} (h:p:=by
 obtain⟨rfl,hwc⟩:=hcut;replace hwc:=hwc.symm;subst hwc;go_wp2_with (go_at_call 53;refine(HNA.out _).mono ?_)
 first|rintro e w5 rfl rfl|rintro e w5 ⟨rfl,rfl⟩
 go_wp2
 go_ret
 exact⟨rfl,hb0⟩):p:=h
theorem bX {p:Prop} (h:p:=by
 have hl3:0≤l':=by omega
 have hl4:l'≤100000:=gN;have HE4:Hid (l'-Rx.partsL r=tot):=ab (by rw [hl2];exact HE2.out);clear hl' hl2;go_wp2
 go_roundw
 case rel=>exact⟨i+1,l',by omega,by go_num,rfl,hl3,hl4,(hb.alloc hB _).trans (hb2.mono gV),ab (by rw [Hr.out];exact HE3.out),ab (by rw [Hr.out];exact HE4.out)⟩
 case measure=>simp [intOf];omega):p:=h
theorem bY {p:Prop} (h:p:=by
 intro v1 w1 ho1 hg1 hb1 _;obtain⟨a1,c1,rfl⟩:=lD ho1;go_wp2
 go_ret
 refine⟨a1,c1,by simp,by simpa using zo ho1,((Below.refl _ _).alloc (Ju _) _).trans hb1⟩):p:=h
theorem bZ {p:Prop} (h:p:=by
 iterate 8 (refine SlS.keep ?_ (Kept.setLow _ (fun b hb=>by have:w.heap.size+1≤b:=hb;simp;omega)))
 exact SlS.none_ _ _ _ _):p:=h
theorem b7 {p:Prop} (h:p:=by
 have:=HL.out;have h5:=HPL.out;rw [JA];rw [Nat.succ_mul];omega):p:=h
theorem b8 {p:Prop} (h:p:=by
 injection h with h;injection h with _ h;subst h;simp at *;omega):p:=h
theorem b9 {p:Prop} (h:p:=by
 iterate 8 (refine RdT.setHi ?_ gP _)
 exact HRD3.out):p:=h
theorem ca {p:Prop} (h:p:=by
 iterate 8 (refine lr ?_ gP _)
 exact hg3):p:=h
theorem cd {p:Prop} (h:p:=by
 have h2:ks.length≤i:=it;have HE:Hid (R=true):=ab (by rw [←HL.out,hd,okL_nil hl0 hd0]);have HE2:Hid (l=tot):=ab (by rw [←HTL.out,hd];simp [Rx.partsL]);clear hd HL HTL;go_wp2
 go_ret2
 exact⟨⟨l,by rw [HOR.out,HE.out];rfl,fun _=>by rw [HE2.out,←HTT.out]⟩,hbw1.trans (hb.mono hz1)⟩):p:=h
theorem ce {p:Prop} (h:p:=by
 go_enter Tryz.func146,Tryz.ntmps146
 go_wp2_with (go_at_call 149;refine(Ir _ _).mono ?_;rintro e w1 ⟨rfl,rfl⟩)
 go_ret
 exact⟨nA HE.out.symm,rfl⟩):p:=h
theorem cg {p:Prop} (h:p:=by
 have HK:=ab hk;have HM:=ab hm;clear hk hm;go_enter Tryz.func55,Tryz.ntmps55
 go_wp2_with (go_at_call 47;refine(lX _ HK.out).mono ?_;rintro e w1 ⟨rfl,rfl⟩)
 all_goals
  go_ret
  refine⟨ue ?_,rfl⟩;rw [←HR.out];have hm:=HM.out;clear HR HM HK;unfold escL
  (repeat' split)<;>simp_all):p:=h
theorem ci {p:Prop} (h:p:=by
 go_upto_region 1 with fail
 rw [←HW0.out];clear HW0;go_wp2
 go_ret
 exact⟨rfl,hb0⟩):p:=h
theorem cj {p:Prop} (h:p:=by
 go_enter Tryz.func141,Tryz.ntmps141
 go_wp2
 go_ret2
 exact⟨rfl,rfl⟩):p:=h
theorem cl {p:Prop} (h:p:=by
 intro listed L a w hs hf hL h;have hr:Region.ready .any ops listed=[]:=by
  apply List.eq_nil_iff_forall_not_mem.2
  intro i hi;obtain⟨h1,o,ho,_⟩:=mem_ready.1 hi;have hlt:=(Array.getElem?_eq_some_iff.1 ho).1;have:=yO hlt hs h1
  omega
 exact⟨hr,fin listed L a w hs hL h hr⟩):p:=h
theorem cn {p:Prop} (h:p:=by
 clear hB;go_enter Tryz.func100,Tryz.ntmps100
 go_wp2_with (go_at_call 112;refine(tu ⟨_,n,cse,thn,els⟩ _ _ _ _ _).mono ?_;rintro e w1 ⟨rfl,hb1⟩)
 go_ret
 refine⟨lM ?_,((Below.refl _ _).alloc (Ju _) _).trans (hb1.mono gU)⟩;rw [HS.out,hB'];simp):p:=h
theorem cq {p:Prop} (h:p:=by
 have h1:=yK r [];split at h
 ·split at h
  ·cases h
  ·rename_i heq
   rw [heq] at h1;split at h
   ·cases h
   ·split at h
    ·cases h
    ·cases h
    ·rename_i heq2
     have h2:=(pD _ _ _ _ heq2).1;have h3:=Bp h;simp at *;omega
 ·cases h):p:=h
theorem cr {p:Prop} (h:p:=by
 split at h
 ·injection h with h;injection h with _ h;subst h;exact J7 _
 ·cases h):p:=h
theorem ct {p:Prop} (h:p:=by
 simp only [hx] at h;cases h):p:=h
theorem cu {p:Prop} (h:p:=by
 first|rintro e w1 rfl hbl1 hfr1|rintro e w1 ⟨rfl,hbl1,hfr1⟩
 have HBL1:=ab hbl1;have HFR1:=ab (HF5.out.trans hfr1);clear hbl1 hfr1;go_wp2
 go_roundw
 case rel=>exact⟨i+1,_,by go_num,by omega,HBL1.out,HFR1.out,HTE⟩
 case measure=>simp [intOf];omega):p:=h
theorem cw {p:Prop} (h:p:=by
 go_wp2_with (go_at_call 9;refine(HAW.out _ (HT.out.keep hbw3)).mono ?_;rintro e w9 ⟨rfl,hb9⟩)
 go_ret
 exact⟨rfl,bel2 hbw3 hb9⟩):p:=h
theorem cx {p:Prop} (h:p:=by
 iterate 8 (refine RdT.setHi ?_ gP _)
 exact HRD2.out):p:=h
theorem cy {p:Prop} (h:p:=by
 go_wp2_with (go_at_call 117;refine HS.out.mono ?_)
 rintro e w1 ⟨rfl,hst⟩;obtain⟨i,hi,c1,hf,hr⟩:=(hst.rd HR.out).step;have HR1:=ab hr;clear hr;unfold hdS;go_wp2
 go_ret
 exact⟨rfl,HR1.out,CY hst (lp (lF _ _) _ _)⟩):p:=h
theorem cz {p:Prop} (h:p:=by
 go_roundw
 case rel =>
  refine⟨j+1,tx++[c],by omega,by omega,by go_num,?_,hb.trans hb1,by simp;omega,by simp;omega,?_⟩
  ·simpa [mt] using hown1
  ·exact ab (by rw [Hr.out,←HS.out];exact HF'.out)
 case measure=>simp [intOf];omega):p:=h
theorem cA {p:Prop} (h:p:=by
 have hn:=h.len;obtain⟨css,h1,h2⟩:=h;have hlt:=(Jx.1 hk).1;obtain⟨b,o,e1,e2,e3,e4⟩:=h1.2 gN;obtain⟨c,hc,hv⟩:=h2.at_ hk;exact⟨b,o,c,e1,e2,e3,hv,fun j u hj=>e4 _ u (Ip h2.eights hc hj)⟩):p:=h
theorem cB {p:Prop} (h:p:=by
 clear ho1 hg1 hmv;go_wp2
 go_roundw
 case rel=>exact⟨i+1,by omega,by go_num,hb4',hox4⟩
 case measure=>simp [intOf];omega):p:=h
theorem cC {p:Prop} (h:p:=by
 simp only [JA,Jr,J0] at this ⊢;omega):p:=h
theorem cD {p:Prop} (h:p:=by
 subst hij2;clear HF hk hi hj;go_wp2_with (go_at_call 152;refine(HC1.out _ hro).mono ?_)
 first|rintro e w6 rfl hr6 hh6|rintro e w6 ⟨rfl,hr6,hh6⟩
 have hg6:=kR hg hh6;clear hh6;go_wp2
 go_end0
 exact⟨rfl,hr6,hg6⟩):p:=h
theorem cE {p:Prop} (h:p:=by
 go_enter Tryz.func62,Tryz.ntmps62
 go_upto_region 1 with fail
 rw [←hw0];clear hw0;go_wp2
 go_ret
 exact⟨rfl,hbn⟩):p:=h
theorem cF {p:Prop} (h:p:=by
 iterate 8 (refine RxSl.keep ?_ (Kept.setLow _ (fun b hb=>by have:w.heap.size+1≤b:=hb;simp;omega)))
 exact HX1.out):p:=h
theorem cG {p:Prop} (h:p:=by
 unfold dolM at he;split at he
 ·exact he
 ·cases he):p:=h
theorem cH {p:Prop} (h:p:=by
 rw [show k+1-1=k from rfl,HK.out] at hg;injection hg with hg;subst hg;first|rfl|(simp;done)|(simp [HK0.out];done)):p:=h
theorem cI {p:Prop} (h:p:=by
 go_enter Tryz.func57,Tryz.ntmps57
 go_wp2
 go_ret
 exact⟨ue (by rw [←HR.out];simp [oftS]),Below.refl _ _⟩):p:=h
theorem cJ {p:Prop} (h:p:=by
 go_ret
 exact⟨lM HR2.out.symm,((((below_drewN ((Below.refl w.heap.size w).alloc (Ju _) _) _).setCell gU _).setCell gU _).setCell gU _).trans (hb1.mono jP)⟩):p:=h
theorem cK {p:Prop} (h:p:=by
 go_enter Tryz.func104,Tryz.ntmps104
 go_wp2_with (go_at_call 89;refine(qv _ _ gN).mono ?_;rintro e w1 ⟨rfl,rfl⟩)
 go_ret
 exact⟨lM HE.out.symm,(Below.refl _ _).alloc (Ju _) _⟩):p:=h
theorem cL {p:Prop} (h:p:=by
 obtain⟨n0,n1⟩:=mayF_n hm;have h3:=rm n0 n1;have h4:=nV five f.thn;have h5:=nV five f.els;have h6:=nV four f.thn;have h7:=tO f.cse;unfold o4
 (repeat' split)<;>simp<;>omega):p:=h
theorem cM {p:Prop} (h:p:=by
 go_wp2
 go_quiet (fail)
 go_wp2
 exact⟨⟨i+1,by omega,by go_num,below_drewN hb _⟩,by simp [intOf];omega⟩):p:=h
theorem cN {p:Prop} (h:p:=by
 rcases h1.2 with⟨h,h0⟩|⟨g,cap,cur,h,_⟩
 ·injection h with _ h _;omega
 ·injection h with _ h _):p:=h
theorem cO {p:Prop} (h:p:=by
 refine⟨by omega,fun q hq=>?_⟩;rcases JC.1 hq with rfl|hq
 ·omega
 ·have:=h2 q hq;omega):p:=h
theorem cP {p:Prop} (h:p:=by
 rintro e w1 ⟨rfl,hrd1,hq1⟩;have hg1:=kR hg0 hq1;have HRD1:=ab hrd1;have hz1:=hq1.size;clear hrd1 hq1;go_wp2
 go_ret3
 exact⟨hg1,by rw [←HR.out];exact⟨rfl,_,HRD1.out⟩⟩):p:=h
theorem cQ {p:Prop} (h:p:=by
 exact⟨_,_,S,i,[],[],rfl,rfl,HRS0.out,Ju _,by omega,fun _ h=>h,fun _ h=>.inl h,OwnN.nil _ _ _,World.ownsRow_nil _ _ _ _,Gr2.refl _ _ _,by simp,by simp,NotOwn.nil _,NotOwn.nil _,HR⟩):p:=h
theorem cR {p:Prop} (h:p:=by
 rcases Nat.lt_or_ge i l.length with h1|h1
 ·exact h1
 ·rw [List.drop_of_length_le h1] at h;cases h):p:=h
theorem cS {p:Prop} (h:p:=by
 unfold mY at h;simp only at h
 generalize lV _ _ _=q at h
 cases q with
 | none=>simp only at h;cases h
 | some y=>simp only at h;injection h with h;injection h with ha _;subst ha;rfl):p:=h
theorem cT {p:Prop} (h:p:=by
 have h:=hbl4;simpa [o4,five,four] using h):p:=h
theorem cV {p:Prop} (h:p:=by
 have HE3:Hid (R=false):=ab (by rw [HE.out,hok];rfl);clear hl';go_wp2
 go_ret2
 exact⟨⟨_,by rw [HOR.out,HE3.out];rfl,fun h=>by rw [HOR.out,HE3.out] at h;cases h⟩,hbw2⟩):p:=h
theorem cW {p:Prop} (h:p:=by
 iterate 9 (refine RxV.keep (Kept.setLow _ (fun b hb=>by have:w.heap.size≤b∧b≠w.heap.size∧b≠w1.heap.size:=hb;first|omega|(simp;done)|(simp;omega))) ?_)
 exact HUS.out):p:=h
theorem cX {p:Prop} (h:p:=by
 cases ht:lq [94] r with
 | none=>exact J7 _
 | some r2=>exact mI ht):p:=h
theorem cY {p:Prop} (h:p:=by
 have h1:=HLN.out;have h2:=Jp List.length hd2;rw [JU] at h2;have h3:=hp2.2.1;have h4:(nxtM [36,125,92] (c::r)).2.length≤r.length:=h1.1;omega):p:=h
theorem cZ {p:Prop} (h:p:=by
 rcases h1.2 with h0|⟨k,cap,cur,rfl,k1,k2,k3⟩
 ·exact .inl h0
 ·exact .inr ⟨k,cap,cur,rfl,k1,(hg.block k (kT k2) gN gN).trans k2,k3⟩):p:=h
theorem db {p:Prop} (h:p:=by
 rw [Hr.out,J3,←HR.out]):p:=h
theorem dc {p:Prop} (h:p:=by
 rintro rfl;have e0:r0=[]:=List.suffix_nil.1 ks;subst e0;rcases hnil (d+1) with e|⟨e,he⟩
 ·simp only [e,lq] at h;cases h
 ·simp only [he] at h;cases h):p:=h
theorem de {p:Prop} (h:p:=by
 injection h with h;injection h with h3 h;injection h with h4 h5
 subst h3 h4 h5;rfl):p:=h
theorem df {p:Prop} (h:p:=by
 rw [srt_app];refine⟨h1,List.pairwise_cons.2 ⟨k2,h2⟩,fun y hy z hz=>?_⟩;rcases JC.1 hz with rfl|hz
 ·exact k1 y hy
 ·exact h3 y hy z hz):p:=h
theorem dh {p:Prop} (h:p:=by
 simp only [h5] at h;cases h):p:=h
theorem di {p:Prop} (h:p:=by
 rw [Jl h1] at h ⊢;injection h with h;injection h with ha hb;subst ha hb;rfl):p:=h
theorem dj {p:Prop} (h:p:=by
 simp only [Jy,Jj] at h;omega):p:=h
theorem dk {p:Prop} (h:p:=by
 have:=h.cells (g:=g) rfl j u hu
 have hadd:(⟨g,0,none⟩:Addr).add j=⟨g,0+j,none⟩:=by unfold Addr.add;split<;>simp_all
 rw [hadd] at this;exact this):p:=h
theorem dl {p:Prop} (h:p:=by
 have:=HF.out
 have hje:j=i:=gN;subst hje;cases k with
 | zero=>exact this
 | succ k=>simp only [bs] at this;rw [Jo gN] at this;exact this):p:=h
theorem dm {p:Prop} (h:p:=by
 induction ks with
 | nil=>rfl
 | cons x r ih =>
  simp only [anyK,List.any_cons,List.all_cons,Bool.not_or] at *;rw [ih];congr 1;rw [Bool.eq_iff_iff];simp):p:=h
theorem dn {p:Prop} (h:p:=by
 split at h
 ·rename_i heq
  injection h with h;injection h with _ h;subst h
  exact o5 ((J6 _ _).trans (pp _ _ _ heq))
 ·cases h):p:=h
theorem dq {p:Prop} (h:p:=by
 go_wp2
 go_ret
 exact⟨rfl,rfl⟩):p:=h
theorem dr {p:Prop} (h:p:=by
 clear HG;go_wp2
 refine JM (v:=.tuple #[]) (results_none rfl _ _ _) rfl ?_;exact⟨rfl,by rw [←HE.out];exact hrol,kR hg hgl⟩):p:=h
theorem du {p:Prop} (h:p:=by
 show (!lf c&&(r.takeWhile lf).all lf)=_
 have:(r.takeWhile lf).all lf=true:=List.all_takeWhile ..
 rw [this,Jh]):p:=h
theorem dv {p:Prop} (h:p:=by
 have hls:i<listed.size:=gN;simp only [Array.getD_eq_getD_getElem?,Array.getElem?_eq_getElem hls,Option.getD_some] at hl ⊢;exact hl):p:=h
theorem dx {p:Prop} (h:p:=by
 clear hbl3 hfr3 HF4;go_wp2
 go_roundw
 case rel=>exact⟨j+1,_,by go_num,by omega,HBL3.out,HFR3.out,HEQ3⟩
 case measure=>simp [intOf];omega):p:=h
theorem dy {p:Prop} (h:p:=by
 refine wpList_nil ?_;exact⟨_,hf.put hnd hbd 1 rfl _,hB.same hM 1 rfl⟩):p:=h
theorem dz {p:Prop} (h:p:=by
 cases h with
 | true =>
  have h2:=hw.2;rw [Bool.not_true,Bool.false_or,Jy] at h2;exact h2.2
 | false=>exact Af hw.1):p:=h
theorem dB {p:Prop} (h:p:=by
 rw [Jw h];rfl):p:=h
theorem dD {p:Prop} (h:p:=by
 exact⟨0,by omega,rfl,Below.refl _ _⟩):p:=h
theorem dE {p:Prop} (h:p:=by
 clear hd;go_wp2
 go_ret
 exact⟨rfl,hb⟩):p:=h
theorem dF {p:Prop} (h:p:=by
 rw [←HR.out];refine⟨rfl,?_⟩;iterate 8 (refine RdE.setHi ?_ gP _)
 exact⟨_,HRD2.out⟩):p:=h
theorem dH {p:Prop} (h:p:=by
 go_wp2
 go_ret
 exact⟨none,0,rfl,SlS.none_ _ _ _ _,Below.refl _ _⟩):p:=h
theorem dI {p:Prop} (h:p:=by
 have e:dec (n:Int)=Lib.decDigits n:=rfl;rw [JW,J3,JW,J3,e];exact this):p:=h
theorem dJ {p:Prop} (h:p:=by
 clear ho4 hg4 hmv;go_wp2
 go_roundw
 case rel=>exact⟨i+1,by omega,by go_num,hb4',ho5,hs4⟩
 case measure=>simp [intOf];omega):p:=h
theorem dK {p:Prop} (h:p:=by
 rcases Nat.eq_zero_or_pos l.length with h0|h0
 ·exact Jm h0
 ·obtain⟨b,o,e,_⟩:=h.2 h0;cases e):p:=h
theorem dL {p:Prop} (h:p:=by
 go_wp2_with (go_at_call 69;refine(HN.out _).mono ?_;rintro e w1 ⟨rfl,rfl⟩)
 go_ret
 exact⟨by rw [HR2.out];rfl,rfl⟩):p:=h
theorem dM {p:Prop} (h:p:=by
 go_enter Tryz.func21,Tryz.ntmps21
 go_wp2
 go_region
 all_goals (go_wp2;go_ret;exact⟨rfl,Below.drew (Below.refl B w)⟩)):p:=h
theorem dN {p:Prop} (h:p:=by
 have HBL:=ab hbl;have HFR:=ab hfr;clear hd HF hbl hfr;go_wp2
 go_end0
 exact⟨rfl,HF'.out▸HBL.out,HFR.out⟩):p:=h
theorem dO {p:Prop} (h:p:=by
 have hl:=nU three c r;exact ih2 ins (t++[(nxtM three (c::r)).1]) (nxtM three (c::r)).2 gN gV):p:=h
theorem dP {p:Prop} (h:p:=by
 cases t with
 | nil=>cases ht
 | cons c r=>simp only [oR,Jy,Jj] at ht;have:=ht.1.1;omega):p:=h
theorem dQ {p:Prop} (h:p:=by
 exact rl gR):p:=h
theorem dR {p:Prop} (h:p:=by
 exact mS k k' _ _ _ gN gN (fun t ht=>heq t gN) (fun t x s ht=>hl t x s gN)):p:=h
theorem dS {p:Prop} (h:p:=by
 rw [oJ (k:=b) _ _ (by rintro rfl;exact HRS.out.ng hb),mL (k:=b) (by rintro rfl;exact hnb3.1 hb)]):p:=h
theorem dU {p:Prop} (h:p:=by
 refine(Ct l i w h0 gN gN).mono ?_
 rintro e w1 ⟨hw,hp⟩;rw [hN] at hp;exact⟨hw,hp⟩):p:=h
theorem dV {p:Prop} (h:p:=by
 rw [hL];simp only [Array.getD_eq_getD_getElem?,Array.getElem?_eq_getElem hls,Option.getD_some] at h1 ⊢;exact h1):p:=h
theorem dW {p:Prop} (h:p:=by
 split at h
 ·injection h with h;injection h with _ h;subst h;exact⟨Ju _,fun e=>by omega⟩
 ·cases h):p:=h
theorem dX {p:Prop} (h:p:=by
 rcases hT2 b e with h|h
 ·have:=HRS.out.lt b h;omega
 ·omega):p:=h
theorem dY {p:Prop} (h:p:=by
 injection h with h;injection h with h3 h;injection h with h4 h5
 subst h5;exact mq (J6 _ _)):p:=h
theorem dZ {p:Prop} (h:p:=by
 rename_i y hy
 rw [hy] at f1 f2 f3;simp only [Rx.partsL,Rx.groupsL] at f2 f3;exact⟨f1.1,by omega,by omega⟩):p:=h
theorem d9 {p:Prop} (h:p:=by
 injection h with h;injection h with _ h;subst h;exact this):p:=h
theorem ea {p:Prop} (h:p:=by
 rw [List.flatten_cons,JX] at hu;rcases hu with hu|hu
 ·exact h1.one u hu
 ·exact h2.one u hu):p:=h
theorem eb {p:Prop} (h:p:=by
 rw [xO] at hn;split at hn
 ·rename_i q;injection hn with hn;exact⟨b,rfl,q,hn.symm⟩
 ·cases hn):p:=h
theorem ec {p:Prop} (h:p:=by
 injection h with h;injection h with ha hb;subst ha hb;rfl):p:=h
theorem ef {p:Prop} (h:p:=by
 rcases hst with h2|⟨h2,h3⟩
 ·exact .inl (Oper.wp_mono key (IU h2))
 ·exact .inr ⟨h2,h3⟩):p:=h
theorem eh {p:Prop} (h:p:=by
 obtain⟨b,o,e,hlt,hc⟩:=(Sl.of_own h1).2 hn;subst e;exact⟨b,o,rfl,.inr (h1.lt b rfl).1,hlt,hc⟩):p:=h
theorem ei {p:Prop} (h:p:=by
 obtain⟨t,rfl,rfl⟩:=hq;go_wp2
 go_ret3
 exact⟨hg2,by rw [←HR.out];exact⟨rfl,_,HRD2.out⟩⟩):p:=h
theorem el {p:Prop} (h:p:=by
 rw [Jl hd] at h;cases h):p:=h
theorem em {p:Prop} (h:p:=by
 simp only [hk] at h;cases h):p:=h
theorem en {p:Prop} (h:p:=by
 simp only [ht] at h;cases h):p:=h
theorem eo {p:Prop} (h:p:=by
 rw [Jl h5] at h;cases h):p:=h
theorem ep {p:Prop} (h:p:=by
 simp only [ha] at h;cases h):p:=h
theorem er {p:Prop} (h:p:=by
 rcases hd with⟨n,_,rfl⟩|⟨t,_,rfl⟩<;>simp [no,varS,Sn.give,Sn.tell,Sn.kind,Sn.text,Sn.n]):p:=h
theorem eu {p:Prop} (h:p:=by
 rcases hd with⟨n,_,rfl⟩|⟨t,_,rfl⟩<;>simp [no,varS,Sn.turn,Sn.tell,Sn.kind,Sn.text,Sn.n]):p:=h
theorem ev {p:Prop} (h:p:=by
 go_wp2
 go_ret
 exact⟨lM HE.out.symm,(hb.alloc hB _).trans (xq.ext.mono gV)⟩):p:=h
theorem ew {p:Prop} (h:p:=by
 exact⟨[],r0,World.ownsRow_nil _ _ _ _,HRD2.out,lF _ _,by simp,by omega,by simp,HR0⟩):p:=h
theorem ex {p:Prop} (h:p:=by
 refine(FD l i n w h1 hs).mono ?_
 rintro e w1 ⟨hb,hp⟩;rw [hB] at hp;exact⟨hb,hp⟩):p:=h
theorem ey {p:Prop} (h:p:=by
 exact⟨_,hf.put hnd hbd 0 rfl _,hB.same hM 0 rfl⟩):p:=h
theorem ez {p:Prop} (h:p:=by
 exact⟨_,hf.put hnd hbd 3 rfl _,hB.same hM 3 rfl⟩):p:=h
theorem eB {p:Prop} (h:p:=by
 go_wp2
 go_roundw
 case rel=>exact⟨rfl,.inr (.inl ⟨rfl,rfl⟩)⟩
 case measure=>simp [intOf]):p:=h
theorem eC {p:Prop} (h:p:=by
 exact mS _ _ _ _ _ gN gN (fun _ _=>rfl) (fun t x s _ h=>nR h)):p:=h
theorem eD {p:Prop} (h:p:=by
 rw [Jw this];rfl):p:=h
theorem eE {p:Prop} (h:p:=by
 go_ret
 exact⟨rfl,((Below.refl _ _).alloc (Ju _) _).trans (hb1.mono gU)⟩):p:=h
theorem eG {p:Prop} (h:p:=by
 iterate 9 (refine RdT.setHi ?_ gP _)
 exact HRD4.out):p:=h
theorem eH {p:Prop} (h:p:=by
 rw [e];simp only [Rx.wfL,Jh] at hw;exact⟨hw,by simp only [Rx.partsL];omega⟩):p:=h
theorem eI {p:Prop} (h:p:=by
 rcases hd with⟨n,_,rfl⟩|⟨t,_,rfl⟩<;>simp [no,varS,Sn.tell,Sn.kind,Sn.text,Sn.n]):p:=h
theorem eJ {p:Prop} (h:p:=by
 iterate 9 (refine lr ?_ gP _)
 exact hgw4):p:=h
theorem eK {p:Prop} (h:p:=by
 have hk0:k=0:=gN;subst hk0;have:=Hm.out
 rw [Jo h0k];unfold zZ;simp;omega):p:=h
theorem eL {p:Prop} (h:p:=by
 simp only [partsL];rcases JC.1 h with rfl|h
 ·omega
 ·have:=parts_mem h;omega):p:=h
theorem eM {p:Prop} (h:p:=by
 rw [xO] at hn;cases hb:oD b with
 | true=>rw [hb] at hn;cases hn
 | false=>rfl):p:=h
theorem eN {p:Prop} (h:p:=by
 go_wp2
 all_goals first
  | (go_ret;exact⟨nA HE.out.symm,hb⟩)
  | (exfalso;omega)):p:=h
theorem eO {p:Prop} (h:p:=by
 have:r=[]:=Jm gN
 subst this;exact J7 _):p:=h
theorem eP {p:Prop} (h:p:=by
 rintro(e|⟨e,_⟩)
 ·exact HRS.out.ng e
 ·omega):p:=h
theorem eQ {p:Prop} (h:p:=by
 rintro(e|⟨e,_⟩)
 ·exact HRS.out.nm e
 ·omega):p:=h
theorem eR {p:Prop} (h:p:=by
 exact⟨_,by rw [b];exact yV gN⟩):p:=h
theorem eS {p:Prop} (h:p:=by
 simp only [patL] at h;injection h with h;injection h with h1 h2;subst h1 h2;exact fin):p:=h
theorem eT {p:Prop} (h:p:=by
 rw [Jo gR,Jo gR,Jo (fun h=>absurd h.1 gR),hft]):p:=h
theorem eU {p:Prop} (h:p:=by
 exact .inl ⟨hz0,FV hz0⟩):p:=h
theorem eV {p:Prop} (h:p:=by
 rw [Jl h1] at h;injection h with h;injection h with h1 h2;subst h1 h2;exact fin):p:=h
theorem eW {p:Prop} (h:p:=by
 exact⟨0,by omega,rfl,Below.refl _ _,by rw [List.take_zero];exact OwnX.nil _ _⟩):p:=h
theorem eX {p:Prop} (h:p:=by
 obtain⟨x,r3⟩:=y;rw [hat] at hq;obtain⟨hq2,cc,rfl,hxv,hrd2⟩:=hq;have HR2:Hid (ma x r3=R):=ab jY;have HR:=HR2;have hg2:=kR hg1 hq2;have hby2:=kW HBY1.out hq2 gN;have hz2:=hq2.size;obtain⟨k,c,ng,rs,lo,hi,lz,ks⟩:=x;have hxv0:=hxv;obtain⟨ra,rc,ka,kc,rfl,hrs,hks⟩:=hxv.open_;have hb6:Below w2.heap.size w2 (w2.alloc (.cells #[.int .i64 k,.string ⟨(c).toArray⟩,.bool ng,.slice ra rs.length rc,.int .i64 lo,.int .i64 hi,.bool lz,.slice ka ks.length kc] 38)):=(Below.refl _ _).alloc (Ju _) _;have HRD6:=ab (hrd2.later hb6);have hg6:=kR hg2 (kS hb6 (some g));have HBY6:=ab ((hb6.block _ (kT hby2)).trans hby2);have hxv6:RxV _ (fun b=>w.heap.size+1≤b) _ _:=(hxv0.mono (S':=fun b=>w.heap.size+1≤b) fun b hb _=>by have:=hz1;omega).later hb6;have hz6:w.heap.size+1≤(w2.alloc (.cells #[.int .i64 k,.string ⟨(c).toArray⟩,.bool ng,.slice ra rs.length rc,.int .i64 lo,.int .i64 hi,.bool lz,.slice ka ks.length kc] 38)).heap.size:=by simp;have:=hz1;omega
 exact am):p:=h
theorem eY {p:Prop} (h:p:=by
 obtain⟨x,r3⟩:=y;rw [hat] at hq;obtain⟨hq2,cc,rfl,hxv,hrd2⟩:=hq;have HR2:Hid (ma x r3=R):=ab jY;have HR:=HR2;have hg2:=kR hg2 hq2;have hby2:=kW HBY2.out hq2 gN;have hz2:=hq2.size;obtain⟨k,c,ng,rs,lo,hi,lz,ks⟩:=x;have hxv0:=hxv;obtain⟨ra,rc,ka,kc,rfl,hrs,hks⟩:=hxv.open_;have hb6:Below w2.heap.size w2 (w2.alloc (.cells #[.int .i64 k,.string ⟨(c).toArray⟩,.bool ng,.slice ra rs.length rc,.int .i64 lo,.int .i64 hi,.bool lz,.slice ka ks.length kc] 38)):=(Below.refl _ _).alloc (Ju _) _;have HRD6:=ab (hrd2.later hb6);have hg6:=kR hg2 (kS hb6 (some g));have HBY6:=ab ((hb6.block _ (kT hby2)).trans hby2);have hxv6:RxV _ (fun b=>w.heap.size+1≤b) _ _:=(hxv0.mono (S':=fun b=>w.heap.size+1≤b) fun b hb _=>by have:=hz2;omega).later hb6;have hz6:w.heap.size+1≤(w2.alloc (.cells #[.int .i64 k,.string ⟨(c).toArray⟩,.bool ng,.slice ra rs.length rc,.int .i64 lo,.int .i64 hi,.bool lz,.slice ka ks.length kc] 38)).heap.size:=by simp;have:=hz2;omega
 exact am):p:=h
theorem eZ {p:Prop} (h:p:=by
 have HT:=ab ht;cases hit:og r with
 | none =>
  exact aR
 | some y =>
  obtain⟨c,nm,r1⟩:=y;obtain⟨i1,i2,i3,i4,i5⟩:=sg hit hok;have HIT:=ab hit;have HI4:=ab i4;have HRL:=ab hrl;have HOWN:=ab hown;clear i4 hrl hown;by_cases hnm:nm=[]
  ·subst hnm
   cases ht2:lq [45] r1 with
   | none =>
    exact au
   | some r2 =>
    have er1:=mO ht2;subst er1;cases r2 with
    | nil =>
     exact ax
    | cons c3 r3 =>
     by_cases h93:c3=[93]
     ·exact an
     ·have ht3:lq [93] (c3::r3)=none:=by rw [lq,Jo h93]
      have g93:(c3==[93])=false:=JP.2 h93;have g93':(c3 != [93])=true:=by simp [bne,g93]
      cases hit2:og (c3::r3) with
      | none =>
       exact ao
      | some y =>
       obtain⟨t,nm2,r4⟩:=y;obtain⟨j1,j2,j3,j4,j5⟩:=sg hit2 i5.tail;have HIT2:=ab hit2;clear j4;by_cases hnm2:nm2=[]
       ·exact ai
       ·exact aq
  ·exact aL):p:=h
theorem fb {p:Prop} (h:p:=by
 refine TfV.mono (S:=fun b=>w.heap.size<b∧b<w3.heap.size) (fun b hb _=>by have h:w.heap.size<b∧b<w3.heap.size:=hb;omega) ?_;iterate 11 (refine TfV.keep (Kept.setLow _ (fun b hb=>by have h:w.heap.size<b∧b<w3.heap.size:=hb;simp;omega)) ?_)
 exact hT.keep (Kept.all ((Below.refl _ _).alloc (Ju _) _))):p:=h
theorem ff {p:Prop} (h:p:=by
 refine JM (v:=.tuple #[.agg #[.int .i64 0,.int .i64 0,.int .i64 0,.string ⟨#[]⟩,.string ⟨#[]⟩],.int .i64 0,.bool false]) iG rfl ⟨?_,by rw [HE'.out];rfl⟩
 (repeat (first|with_reducible exact Below.refl _ _|with_reducible assumption|(refine Below.setCell ?_ ij _)|(refine Below.alloc ?_ gX _)|(refine Below.drew ?_)))):p:=h
theorem fg {p:Prop} (h:p:=by
 intro L a w' hL hd hI;obtain⟨V,hf,hO,h25,h19⟩:=hI;simp [lm,Region.binds] at hd
 have e:=(lU ((hf.ins hnd hbd 0 rfl).trans (Jp some (hO.vs 0 gW))));have e1:=(lU ((hf.ins hnd hbd 1 rfl).trans (Jp some (hO.vs 1 gW))));obtain rfl:=hO.h0 hL;refine qS (lg rfl) (qV (vs:=#[v6,v7]) rfl Tryz.func41 gT jz) ((uu wa.drew HOA.out HTA.out hzA gN gN).mono ?_);rintro e9 w8 ⟨v8,rfl,ho8,hg8,hm8⟩;refine⟨_,rfl,?_⟩;obtain⟨a8,c8,rfl⟩:=ho8.form;exact⟨_,hf.put hnd hbd 2 rfl _,hO.event ⟨a8,c8,rfl,HGA.out.row (fun k hk=>(HOA.out.lt k hk).1) (Ju _) hg8,HRA.out.grow HN6.out (fun k hk=>(HOA.out.lt k hk).1) hgB hg8,ho8⟩ trivial,(fun _=>by simp),(fun h=>by have:=(h19 gQ).1;rw [hL] at this;cases this)⟩):p:=h
theorem fi {p:Prop} (h:p:=by
 go_wp2_with (go_at_call 108;refine HRD.out.mono ?_)
 rintro e w1 ⟨hb1,rfl⟩;have hb1w:Below w.heap.size w w1:=hb.trans (hb1.mono hB);have hB1:=hb1w.size;have hby1:=(hb1.block _ (kT HBY.out)).trans HBY.out;have z0:=fun o=>kU (lx hby1 o) 0 rfl
 have z1:=fun o=>kU (lx hby1 o) 1 rfl
 have z2:=fun o=>kU (lx hby1 o) 2 rfl
 have z3:=fun o=>kU (lx hby1 o) 3 rfl
 have z4:=fun o=>kU (lx hby1 o) 4 rfl
 have z5:=fun o=>kU (lx hby1 o) 5 rfl
 have z6:=fun o=>kU (lx hby1 o) 6 rfl
 have z7:=fun o=>kU (lx hby1 o) 7 rfl
 have z8:=fun o=>kU (lx hby1 o) 8 rfl
 have z9:=fun o=>kU (lx hby1 o) 9 rfl
 have z10:=fun o=>kU (lx hby1 o) 10 rfl
 have zf:=fun o=>mg (lx hby1 o)
 clear hby1 hby;unfold rxv0;go_wp2
 exact aB):p:=h
theorem fj {p:Prop} (h:p:=by
 refine⟨rfl,?_⟩;iterate 8 (refine RdE.setHi ?_ gP _)
 exact⟨_,HRD9.out⟩):p:=h
theorem fo {p:Prop} (h:p:=by
 go_enter Tryz.func36,Tryz.ntmps36
 go_upto_region 1 with fail
 rw [←HW0.out];clear HW0;go_cut [3] from 4 to 11 (fun c wx=>c=.bool nb∧wx=W0)
 case first =>
  exact ah
 case rest =>
  exact bn):p:=h
theorem fp {p:Prop} (h:p:=by
 have HR2:Hid (R=false):=ab jf;go_enter Tryz.func71,Tryz.ntmps71
 go_wp2_with (go_at_call 88;refine(om _ HB.out).mono ?_;rintro e w1 ⟨rfl,hb1,hc1⟩;have hq7:=hc1 ⟨w.heap.size,7,none⟩ (.slice ka (ks.length+1) kc) gU)
 exact aX):p:=h
theorem fq {p:Prop} (h:p:=by
 intro L a w' hL hd hI;obtain⟨V,hf,hO,h25,h19⟩:=hI;simp [lm,Region.binds] at hd
 have e:=(lU ((hf.ins hnd hbd 4 rfl).trans (Jp some (hO.vs 4 gW))));refine lR (lg rfl) (nY (.inl rfl)) ?_;rw [e];exact⟨_,hf.put hnd hbd 5 rfl _,hO.pure 5 gR (rfl),(fun _=>by simp [hd]),(fun h=>⟨by simpa using (h19 gQ).1,(h19 gQ).2⟩)⟩):p:=h
theorem fu {p:Prop} (h:p:=by
 have z0:=kU hby0 0 rfl;have z1:=kU hby0 1 rfl;have z2:=kU hby0 2 rfl;have z3:=kU hby0 3 rfl;have z4:=kU hby0 4 rfl;have z5:=kU hby0 5 rfl;have z6:=kU hby0 6 rfl;have z7:=kU hby0 7 rfl;have z8:=kU hby0 8 rfl;have z9:=kU hby0 9 rfl;have z10:=kU hby0 10 rfl;have zf:=mg hby0;clear hby0;go_enter Tryz.func94,Tryz.ntmps94
 go_wp2
 exact aB):p:=h
theorem fw {p:Prop} (h:p:=by
 intro L a w' hL hd hI;obtain⟨V,hf,hO,h25,h19⟩:=hI;simp [lm,Region.binds] at hd
 have e:=lU ((hf.out (t:=6) gR).trans e6);refine lR (lg rfl) (nY (.inl rfl)) ?_;rw [e];exact⟨_,hf.put hnd hbd 0 rfl _,hO.pure 0 gR (rfl),(fun h=>by simpa using h25 gQ),(fun h=>⟨by simpa using (h19 gQ).1,(h19 gQ).2⟩)⟩):p:=h
theorem fx {p:Prop} (h:p:=by
 intro L a w' hL hd hI;obtain⟨V,hf,hO,h25,h19⟩:=hI;simp [lm,Region.binds] at hd
 have e:=lU ((hf.out (t:=7) gR).trans e7);refine lR (lg rfl) (nY (.inl rfl)) ?_;rw [e];exact⟨_,hf.put hnd hbd 1 rfl _,hO.pure 1 gR (rfl),(fun h=>by simpa using h25 gQ),(fun h=>⟨by simpa using (h19 gQ).1,(h19 gQ).2⟩)⟩):p:=h
theorem fy {p:Prop} (h:p:=by
 intro L a w' hL hd hI;obtain⟨V,hf,hO,h25,h19⟩:=hI;simp [lm,Region.binds] at hd
 have e:=lU ((hf.out (t:=1) gR).trans e1);refine lR (lg rfl) (nY (.inl rfl)) ?_;rw [e];exact⟨_,hf.put hnd hbd 3 rfl _,hO.pure 3 gR (rfl),(fun h=>by simpa using h25 gQ),(fun h=>⟨by simpa using (h19 gQ).1,(h19 gQ).2⟩)⟩):p:=h
theorem fz {p:Prop} (h:p:=by
 go_enter Tryz.func71,Tryz.ntmps71
 go_wp2_with (go_at_call 88;refine(om _ HB.out).mono ?_;rintro e w1 ⟨rfl,hb1,hc1⟩;have hq7:=hc1 ⟨w.heap.size,7,none⟩ (.slice ka (0) kc) gU)
 exact aX):p:=h
theorem fA {p:Prop} (h:p:=by
 go_enter Tryz.func71,Tryz.ntmps71
 go_wp2_with (go_at_call 88;refine(om _ HB.out).mono ?_;rintro e w1 ⟨rfl,hb1,hc1⟩;have hq7:=hc1 ⟨w.heap.size,7,none⟩ (.slice ka (1) kc) gU)
 exact aX):p:=h
theorem fB {p:Prop} (h:p:=by
 go_enter Tryz.func36,Tryz.ntmps36
 go_upto_region 1 with fail
 rw [←HW0.out];clear HW0;go_cut [3] from 4 to 11 (fun c wx=>c=.bool nb∧wx=W0)
 case first =>
  exact ah
 case rest =>
  exact bW):p:=h
theorem fC {p:Prop} (h:p:=by
 intro L a w' hL hd hI;obtain⟨V,hf,hO,h25,h19⟩:=hI;simp [lm,Region.binds] at hd
 have e:=lU (hf.ins hnd hbd 2 rfl);refine lR (lg rfl) (nY (.inr rfl)) ?_;rw [e];exact⟨_,hf.put hnd hbd 19 rfl _,hO.pure 19 gR trivial,(fun h=>by simpa using h25 gQ),(fun _=>⟨by simp [hd],rfl⟩)⟩):p:=h
theorem fD {p:Prop} (h:p:=by
 have gb:((i:Int)+0==(i:Int))=true:=gU;try simp only [Nat.add_zero] at h2 h3
 first|(have gl5:decide ((i:Int)<(s.length:Int))=true:=JR gN)|(have gl5:decide ((i:Int)<(s.length:Int))=false:=JT gN)
 go_wp2
 go_ret2
 exact⟨hg,by rw [hRn.out];exact⟨rfl,HP.out⟩⟩):p:=h
theorem fE {p:Prop} (h:p:=by
 obtain⟨rfl,hwc⟩:=hcut;replace hwc:=hwc.symm;subst hwc;go_wp2_with (first
  | (refine mQ kQ 44 (.tmp 1) rfl w.heap.size 0 rfl cc _ (lc (ds:=[]) iQ) kX rfl gY ?_)
  | (go_at_call 51;refine HNO.out.mono ?_))
 exact bg):p:=h
theorem fF {p:Prop} (h:p:=by
 go_enter Tryz.func119,Tryz.ntmps119
 go_wp2_with (first|(go_at_call 125;refine(nE _ _ _ _ gN gN gU).mono ?_;rintro e w1 ⟨rfl,rfl⟩)|(go_at_call 124;refine(pQ _ gN gN gN HN.out).mono ?_;rintro e w1 ⟨rfl,rfl⟩))
 exact aK):p:=h
theorem fG {p:Prop} (h:p:=by
 go_wp2
 go_roundw
 case rel=>exact⟨H+1,j,k,by go_num,rfl,by omega,by omega,by omega,by omega,hrq,hgq,HE2⟩
 case measure=>simp [intOf];omega):p:=h
theorem fH {p:Prop} (h:p:=by
 go_enter Tryz.func38,Tryz.ntmps38
 go_wp2_with (go_at_call 32;refine(lB B _ (acc) _ _ (hbl.alloc _) gP gP gP).mono ?_)
 exact aZ):p:=h
theorem fI {p:Prop} (h:p:=by
 go_wp2
 go_roundw
 case rel=>exact⟨i,H,k,rfl,rfl,by omega,by omega,by omega,by omega,hrq,hgq,HE2⟩
 case measure=>simp [intOf];omega):p:=h
theorem fJ {p:Prop} (h:p:=by
 iterate 8 (refine lr ?_ gP _)
 exact hg1):p:=h
theorem fK {p:Prop} (h:p:=by
 have gb:((i:Int)+(k:Int)==(i:Int))=false:=by rw [JP];omega
 have gb2:(((i+k:Nat):Int)==(i:Int))=false:=by rw [JP];omega
 go_wp2
 go_ret2
 exact⟨hg2,by rw [hRs.out];exact⟨hm4,rfl,i+k,HP2.out,HD.out,by omega⟩⟩):p:=h
theorem fL {p:Prop} (h:p:=by
 go_wp2_with (first
  | (refine mQ kQ 44 (.tmp 1) rfl w.heap.size 0 rfl cc _ (lc (ds:=[]) iQ) kX rfl gY ?_)
  | (go_at_call 52;refine HNO.out.mono ?_))
 exact bg):p:=h
theorem fM {p:Prop} (h:p:=by
 refine⟨rfl,?_⟩;iterate 8 (refine RdE.setHi ?_ gP _)
 exact⟨_,HRD1.out⟩):p:=h
theorem fN {p:Prop} (h:p:=by
 rw [Bool.false_and];clear HNO;go_enter Tryz.func36,Tryz.ntmps36
 go_upto_region 1 with fail
 rw [←HW0.out];clear HW0;go_cut [3] from 4 to 11 (fun c wx=>c=.bool false∧wx=W0)
 case first =>
  exact ah
 case rest =>
  exact bn):p:=h
theorem fO {p:Prop} (h:p:=by
 rw [show wq.heap.size=(wq).heap.size from by first|rfl|simp [World.setCell]];exact Sl.lit (n:=1) (sz:=2) (heap_alloc_new (wq) (.cells #[.string ⟨(c).toArray⟩,.string ⟨(c).toArray⟩] 93)) rfl):p:=h
theorem fP {p:Prop} (h:p:=by
 exact⟨_,hf.put hnd hbd 18 rfl _,hO.pure 18 gR (rfl),(fun h=>by simpa using h25 gQ),(fun h=>⟨by simpa using (h19 gQ).1,(h19 gQ).2⟩)⟩):p:=h
theorem fQ {p:Prop} (h:p:=by
 exact⟨_,hf.put hnd hbd 4 rfl _,hO.pure 4 gR (rfl),(fun h=>by simpa using h25 gQ),(fun h=>⟨by simpa using (h19 gQ).1,(h19 gQ).2⟩)⟩):p:=h
theorem fR {p:Prop} (h:p:=by
 go_enter Tryz.func36,Tryz.ntmps36
 go_upto_region 1 with fail
 rw [←HW0.out];clear HW0;go_cut [3] from 4 to 11 (fun c wx=>c=.bool true∧wx=W0)
 case first =>
  exact ah
 case rest =>
  exact bn):p:=h
theorem fS {p:Prop} (h:p:=by
 rw [HY.out];refine OwnX.app (ds:=[_]) (m:=1) HRV6.out (.cons (HCV6.out.mono fun b hb _=>?_) .nil) rfl ?_ hq7 hmv
 ·exact⟨by omega,fun e=>by have:=(hlta b e).2;omega⟩
 ·simpa using ho7):p:=h
theorem fT {p:Prop} (h:p:=by
 have HR2:Hid (Except.error q=R):=ab jY;have HR:=HR2;have hg2:=kR hg1 hq2;have hby2:=kW HBY1.out hq2 gN;exact aA):p:=h
theorem fU {p:Prop} (h:p:=by
 have HR2:Hid (Except.error q=R):=ab jY;have HR:=HR2;have hg2:=kR hg2 hq2;have hby2:=kW HBY2.out hq2 gN;exact aA):p:=h
theorem fV {p:Prop} (h:p:=by
 iterate 8 (refine RdT.setHi ?_ gP _)
 exact HRD1.out):p:=h
theorem fW {p:Prop} (h:p:=by
 rcases hT2 b hb with h|h
 ·exact HS2.out b h
 ·exact .inr (Jv HGA.out.size h)):p:=h
theorem fX {p:Prop} (h:p:=by
 iterate 8 (refine Below.setCell ?_ gU _)
 exact hbw1):p:=h
theorem fZ {p:Prop} (h:p:=by
 split at h
 ·rename_i heq
  have:=qx _ _ _ heq
  exact b8
 ·cases h):p:=h
theorem f9 {p:Prop} (h:p:=by
 obtain⟨i,j,k,rfl,rfl,hi,hij,hj,hk,hro,hg,HF⟩:=hrel;clear HT HRO;by_cases hlt:i<j
 ·exact ae
 ·have hij2:T=i:=by
   exact aT
  exact bE):p:=h
theorem gf {p:Prop} (h:p:=by
 obtain⟨i,j,k,rfl,rfl,hi,hij,hj,hk,hro,hg,HF⟩:=hrel;clear HT HRO;by_cases hlt:i<j
 ·exact ae
 ·have hij2:T=i:=by
   exact aT
  exact cD):p:=h
theorem gj {p:Prop} (h:p:=by
 have hdown:∀k,i+k≤t→L (t-k)=true:=by
  exact bq
 have:=hdown (t-i) gN
 rw [show t-(t-i)=i by omega,hLi] at this;cases this):p:=h
theorem gp {p:Prop} (h:p:=by
 go_wp2_with (go_at_call 125;refine(nE _ _ _ _ gN gN gU).mono ?_;rintro e w1 ⟨rfl,rfl⟩)
 exact aK):p:=h
theorem gq {p:Prop} (h:p:=by
 simp only [hpm] at h;cases h):p:=h
theorem gu {p:Prop} (h:p:=by
 refine⟨rfl,?_⟩;iterate 8 (refine RdE.setHi ?_ gP _)
 exact⟨_,HRD6.out⟩):p:=h
theorem gy {p:Prop} (h:p:=by
 rw [JA,show lw (rows++[(c,c)])=lw rows++lw [(c,c)] from by simp [lw]];exact hown7):p:=h
theorem gz {p:Prop} (h:p:=by
 refine⟨by simp;try omega,by simp;try omega,j+1,by omega,by omega,(lG HJ3.out).2.2,by simp⟩):p:=h
theorem gC {p:Prop} (h:p:=by
 go_wp2_with (go_at_call 47;refine(lX _ HIX.out).mono ?_;rintro e w4 ⟨rfl,rfl⟩)
 exact aB):p:=h
theorem gD {p:Prop} (h:p:=by
 exact(hg1.block _ (kT HBY.out) (nL hown HBY.out gR).symm).trans HBY.out):p:=h
theorem gE {p:Prop} (h:p:=by
 iterate 8 (refine Below.setCell ?_ gP _)
 exact hbl7):p:=h
theorem gF {p:Prop} (h:p:=by
 clear HF2;go_wp2
 go_ret2
 exact⟨hg,by rw [←HF3.out];exact⟨⟨_,rfl⟩,_,HRD.out⟩⟩):p:=h
theorem gG {p:Prop} (h:p:=by
 iterate 8 (refine lr ?_ gP _)
 exact hg8):p:=h
theorem gH {p:Prop} (h:p:=by
 have h1:=hps r gU;split at h
 ·cases h
 ·rename_i heq
  rw [heq] at h1;exact b8):p:=h
theorem gI {p:Prop} (h:p:=by
 first|rintro e w3 rfl hb3|rintro e w3 ⟨rfl,hb3⟩
 have hbw3:=bel2 hbw2 hb3;exact cw):p:=h
theorem gJ {p:Prop} (h:p:=by
 exact⟨V,⟨hV⟩,OneE.start _ _ _ _ _,(fun h=>by cases h),(fun h=>by cases h)⟩):p:=h
theorem gK {p:Prop} (h:p:=by
 have e1:t.isEmpty=false:=by simpa using ht
 rw [e1,Bool.false_and];have hne:(⟨t.toArray⟩:ByteArray)≠⟨#[]⟩:=fun e=>ht kN
 have hq1:(t==([]:Str))=false:=by simpa using ht
 have hq2:(t != ([]:Str))=true:=by simp [bne,hq1]
 have hq3:decide (t=([]:Str))=false:=JT ht;clear ht e1 HNO;exact fo):p:=h
theorem gL {p:Prop} (h:p:=by
 have hc9:0≤cv:=gN;have HE2:=ab ((Jo hc0).symm.trans HF2.out);clear hc0;simp only [hc0',Bool.not_false];exact fG):p:=h
theorem gM {p:Prop} (h:p:=by
 have HE2:=ab ((Jl hc0).symm.trans HF2.out);simp only [hc0',Bool.not_true];exact fI):p:=h
end Go.Proofs.YtdcnncgpomcaaaaGreatDoor
