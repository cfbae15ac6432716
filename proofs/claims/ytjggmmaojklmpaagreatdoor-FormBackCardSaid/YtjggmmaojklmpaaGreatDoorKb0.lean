/- Closing steps that recur, each as a theorem whose argument is found by them. -/
import Derived.WalkLawsBesides
import Derived.WalkSpells
import Derived.BigQuiet
import Derived.Deep.DeepCutAuto
import Derived.Lib.Hide
import Derived.Deep.RegionLaw
set_option maxRecDepth 100000
namespace Go.Proofs.YtjggmmaojklmpaaGreatDoor
open Go.RowKit
theorem ab {p:Prop} (h:p):RowKit.Hid p:=Lib.hid h
abbrev Do:=@beq_iff_eq
abbrev Dp:=@decide_eq_true_eq
abbrev Dq:=@UInt8.toNat_inj
abbrev Dr:=@if_pos
abbrev Ds:=@List.eq_nil_of_length_eq_zero
abbrev Dt:=@List.getElem?_eq_getElem
abbrev Du:=@if_neg
abbrev Dv:=@Nat.le_refl
abbrev Dw:=@List.getElem?_eq_some_iff
abbrev Dx:=@List.length_cons
abbrev Dy:=@Bool.and_eq_true
abbrev Dz:=@Nat.le_trans
abbrev DA:=@Nat.lt_of_lt_of_le
abbrev DB:=@Lib.cell_of_heap
abbrev DC:=@Bool.or_eq_true
abbrev DD:=@List.flatMap_cons
abbrev DE:=@List.length_append
abbrev DF:=@List.mem_cons
abbrev DG:=@List.getElem?_append_left
abbrev DH:=@List.mem_cons_self
abbrev DI:=@List.mem_cons_of_mem
abbrev DJ:=@List.getElem?_append_right
abbrev DK:=@Bool.true_and
abbrev DL:=@List.mem_of_getElem?
abbrev DM:=@decide_eq_false_iff_not
abbrev DN:=@decide_eq_true
abbrev DO:=@List.drop_zero
abbrev DP:=@List.length_nil
abbrev DQ:=@congrArg
abbrev DR:=@List.takeWhile_append_dropWhile
abbrev DS:=@List.length_map
abbrev DT:=@List.length_take
abbrev DU:=@decide_eq_false
abbrev DV:=@beq_eq_false_iff_ne
abbrev DW:=@Bool.false_eq_true
abbrev DX:=@bodyPost_ret
abbrev DY:=@List.not_mem_nil
abbrev DZ:=@List.mem_append
abbrev D0:=@World.size_alloc
abbrev D1:=@List.foldl_cons
abbrev D3:=@List.length_drop
abbrev D4:=@List.nil_append
abbrev D5:=@List.cons_append
abbrev D6:=@List.append_assoc
abbrev D7:=@List.mem_singleton
abbrev D8:=@List.append_nil
abbrev D9:=@List.suffix_cons
abbrev Ea:=@List.suffix_refl
abbrev Eb:=@Nat.add_assoc
abbrev Ec:=@List.singleton_append
abbrev Ed:=@Bool.not_eq_true'
theorem fR {p:Prop} (h:p:=by omega):p:=h
theorem fS {p:Prop} (h:p:=by first|omega|(simp;done)|(simp;omega)):p:=h
theorem fT {p:Prop} (h:p:=by rw [hc1 _ _ (by first|(simp;done)|(simp;omega))];simp):p:=h
theorem fU {p:Prop} (h:p:=by decide):p:=h
theorem fV {p:Prop} (h:p:=by first|(simp;done)|(simp;omega)):p:=h
theorem fW {p:Prop} (h:p:=by kernel_rfl):p:=h
theorem fX {p:Prop} (h:p:=by simp):p:=h
theorem fY {p:Prop} (h:p:=by simp;omega):p:=h
theorem fZ {p:Prop} (h:p:=by first|(simp;done)|(simp;omega)|omega):p:=h
theorem f9 {p:Prop} (h:p:=by simp [World.setCell];omega):p:=h
theorem ga {p:Prop} (h:p:=by simp [results,Tryz.results100,go_sem,f0,f1,f2,f3,f4,f5,f6,f7]):p:=h
theorem gd {p:Prop} (h:p:=by simp [Value.oneCell']):p:=h
theorem gf {p:Prop} (h:p:=by first|omega|(simp only [DE,Dx,DP];omega)):p:=h
theorem gi {p:Prop} (h:p:=by simp [results,Tryz.results123,go_sem,f0,f1,f2,f3,f4,f5,f6,f7]):p:=h
theorem gj {p:Prop} (h:p:=by first|(simp;done)|omega):p:=h
theorem gl {p:Prop} (h:p:=by simp [results,Tryz.results122,go_sem,f0,f1,f2,f3,f4,f5,f6,f7]):p:=h
theorem gm {p:Prop} (h:p:=by simpa using hd):p:=h
theorem gp {p:Prop} (h:p:=by simp [results,Tryz.results78,go_sem,f0,f1,f2,f3,f4,f5,f6,f7]):p:=h
theorem gr {p:Prop} (h:p:=by rw [show b=w.heap.size from e];exact Nat.lt_irrefl _):p:=h
theorem gv {p:Prop} (h:p:=by rw [DB hbx1];rfl):p:=h
theorem gz {p:Prop} (h:p:=by simp [results,Tryz.results99,go_sem,f0,f1,f2,f3,f4,f5,f6,f7]):p:=h
theorem gC {p:Prop} (h:p:=by rw [←HF.out,hd];rfl):p:=h
theorem gD {p:Prop} (h:p:=by rw [show ((i:Int)+1).toNat=i+1 by omega,Hr.out];exact hU):p:=h
theorem gE {p:Prop} (h:p:=by rw [hW0];exact heap_alloc_new w _):p:=h
theorem gF {p:Prop} (h:p:=by simp [results,Tryz.results81,go_sem,z0,z1,z2,z3,z4]):p:=h
theorem gG {p:Prop} (h:p:=by rw [wF];rfl):p:=h
theorem gH {p:Prop} (h:p:=by rw [rx_size];rfl):p:=h
theorem gI {p:Prop} (h:p:=by rw [DV];omega):p:=h
theorem gJ {p:Prop} (h:p:=by simp [results,Tryz.results26,go_sem,f0,f1,f2,f3,f4,f5,f6,f7]):p:=h
theorem gK {p:Prop} (h:p:=by simp [results,Tryz.results12,go_sem,z0,z1,z2,z3,z4,z5,z6,z7,z8,z9,z10]):p:=h
theorem gL {p:Prop} (h:p:=by rw [←HR.out];simp only [oB,ht]):p:=h
theorem gM {p:Prop} (h:p:=by simp only [mv];rw [HPO.out];simp [hp0]):p:=h
theorem gN {p:Prop} (h:p:=by simp [results,Tryz.results121,go_sem,f0,f1,f2,f3,f4,f5,f6,f7]):p:=h
theorem gO {p:Prop} (h:p:=by unfold Func.isWrapper;first|(rw [Dr (by decide +kernel)];kernel_rfl)|(rw [Du (by decide +kernel)];exact⟨rfl,rfl⟩)):p:=h
theorem gP {p:Prop} (h:p:=by first|omega|(simp;omega)):p:=h
theorem gQ {p:Prop} (h:p:=by first|rfl|simp):p:=h
theorem gR {p:Prop} (h:p:=by rw [←hd];exact HF.out):p:=h
theorem gS {p:Prop} (h:p:=by have:=Rx.parts_mem hy;omega):p:=h
theorem gT {p:Prop} (h:p:=by simpa using h):p:=h
theorem gU {p:Prop} (h:p:=by first|exact hbl.alloc _|exact(hbl.alloc _).below hb1):p:=h
theorem gV {p:Prop} (h:p:=by rw [show k=w.heap.size from e];exact Nat.lt_irrefl _):p:=h
theorem gW {p:Prop} (h:p:=by rw [wF,HFL.out]):p:=h
theorem gX {p:Prop} (h:p:=by rw [HR.out];rfl):p:=h
theorem gY {p:Prop} (h:p:=by first|omega|(simp;done)):p:=h
theorem gZ {p:Prop} (h:p:=by rw [ho];decide):p:=h
theorem hJ {p:Prop} (h:p:=by simp [results,Tryz.results77,go_sem,f0,f1,f2,f3,f4,f5,f6,f7]):p:=h
theorem hZ {p:Prop} (h:p:=by simp [results,Tryz.results76,go_sem,f0,f1,f2,f3,f4,f5,f6,f7]):p:=h
theorem ic {p:Prop} (h:p:=by rw [HS.out,hbv];rfl):p:=h
theorem ie {p:Prop} (h:p:=by simpa using HB1.out):p:=h
theorem ig {p:Prop} (h:p:=by simp only [mv];rw [HPO.out];rfl):p:=h
theorem ii {p:Prop} (h:p:=by rw [Do];omega):p:=h
theorem ij {p:Prop} (h:p:=by first|exact hbl3|exact hbl2):p:=h
theorem ik {p:Prop} (h:p:=by simp [hd]):p:=h
theorem il {p:Prop} (h:p:=by rw [←hR];simp only [escM,hn,hbig,hpm]):p:=h
theorem io {p:Prop} (h:p:=by rw [←HR.out,←HF2.out]):p:=h
theorem iq {p:Prop} (h:p:=by rw [DE];omega):p:=h
theorem it {p:Prop} (h:p:=by rw [←HS.out,hd,show s.drop (j+2)=r2 from Hkr.out];simp [rxSp,c92,d47]):p:=h
theorem iv {p:Prop} (h:p:=by simp [Rx.tell,Rx.tellL]):p:=h
theorem iw {p:Prop} (h:p:=by simp only [DE,Dx,DP];omega):p:=h
theorem iy {p:Prop} (h:p:=by simp [results,Tryz.results121,go_sem,f0,f1,f2,f3,f4,f5,f6,f7,hlt9]):p:=h
theorem iz {p:Prop} (h:p:=by have:=HB1.out.size;have:=HB2.out.size;omega):p:=h
theorem iA {p:Prop} (h:p:=by simp only [maxLen,B4];omega):p:=h
theorem iC {p:Prop} (h:p:=by rw [←HR.out];unfold uw;simp only [hpr]):p:=h
theorem iD {p:Prop} (h:p:=by rw [hc2 _ _ (by simp [World.setCell];omega)];simp [go_sem,z0]):p:=h
theorem iE {p:Prop} (h:p:=by rw [hc2 _ _ (by simp [World.setCell];omega)];simp [go_sem,z1]):p:=h
theorem iF {p:Prop} (h:p:=by rw [hc2 _ _ (by simp [World.setCell];omega)];simp [go_sem,z2]):p:=h
theorem iG {p:Prop} (h:p:=by rw [hc2 _ _ (by simp [World.setCell];omega)];simp [go_sem,z3]):p:=h
theorem iH {p:Prop} (h:p:=by rw [hc2 _ _ (by simp [World.setCell];omega)];simp [go_sem,z4]):p:=h
theorem iI {p:Prop} (h:p:=by rw [hc2 _ _ (by simp [World.setCell];omega)];simp [go_sem,y0]):p:=h
theorem iJ {p:Prop} (h:p:=by rw [hc2 _ _ (by simp [World.setCell];omega)];simp [go_sem,y1]):p:=h
theorem iK {p:Prop} (h:p:=by rw [hc2 _ _ (by simp [World.setCell];omega)];simp [go_sem,y2]):p:=h
theorem iL {p:Prop} (h:p:=by rw [hc2 _ _ (by simp [World.setCell];omega)];simp [go_sem,y3]):p:=h
theorem iN {p:Prop} (h:p:=by rw [hc2 _ _ (by simp [World.setCell];omega)];simp [go_sem,y4]):p:=h
theorem iO {p:Prop} (h:p:=by simp [results,Tryz.results52,go_sem,f0,f1,f2,f3,f4,f5,f6,f7]):p:=h
theorem iQ {p:Prop} (h:p:=by rw [←HF.out];simp only [kp,ht,hit,ht2,ht3,hit2,hlt];simp):p:=h
theorem iS {p:Prop} (h:p:=by rw [show ((j:Int)+1).toNat=j+1 by omega,HJ.out];exact hV):p:=h
theorem iT {p:Prop} (h:p:=by rw [show ((i:Int)+1).toNat=i+1 by omega,Hr.out];exact hM):p:=h
theorem iU {p:Prop} (h:p:=by rw [show ((j:Int)+1).toNat=j+1 by omega,Hr.out];exact hP):p:=h
theorem iV {p:Prop} (h:p:=by rw [←HR.out];simp only [hat]):p:=h
theorem iX {p:Prop} (h:p:=by simp [results,Tryz.results55,go_sem]):p:=h
theorem iZ {p:Prop} (h:p:=by rw [←HF.out,hd]):p:=h
theorem i6 {p:Prop} (h:p:=by simp only [mv];rw [HPO.out];simp):p:=h
theorem ja {p:Prop} (h:p:=by simp [results,Tryz.results81,go_sem,x0,x1,x2,x3,x4]):p:=h
theorem jb {p:Prop} (h:p:=by simp [results,Tryz.results55,go_sem,z0,z1,z2,z3,z4]):p:=h
theorem jc {p:Prop} (h:p:=by simp only [B4];omega):p:=h
theorem jd {p:Prop} (h:p:=by have:=hb1.size;simp at this;omega):p:=h
theorem je {p:Prop} (h:p:=by have:=HTF.out;simp;omega):p:=h
theorem jf {p:Prop} (h:p:=by first|(simp;omega)|omega):p:=h
theorem jg {p:Prop} (h:p:=by rw [←HR.out];simp only [hpr,ht]):p:=h
theorem jh {p:Prop} (h:p:=by simpa using hl0):p:=h
theorem ji {p:Prop} (h:p:=by simpa using hl1):p:=h
theorem jk {p:Prop} (h:p:=by simpa using hgB):p:=h
theorem jl {p:Prop} (h:p:=by rw [←HRR.out,hd];simp [lQ]):p:=h
theorem jm {p:Prop} (h:p:=by rw [HM.out,hd,hbt];simp [hkl]):p:=h
theorem jn {p:Prop} (h:p:=by rw [HE.out,hU]):p:=h
theorem jo {p:Prop} (h:p:=by rw [D0];omega):p:=h
theorem jp {p:Prop} (h:p:=by simp [World.setCell]):p:=h
theorem jq {p:Prop} (h:p:=by rw [HE5.out,hfl]):p:=h
theorem jr {p:Prop} (h:p:=by simpa [Rx.groups] using hg):p:=h
theorem jt {p:Prop} (h:p:=by rw [HR2.out]<;>simp):p:=h
theorem ju {p:Prop} (h:p:=by rw [Hr.out];exact HE3.out):p:=h
theorem jv {p:Prop} (h:p:=by simpa using hl):p:=h
theorem jx {p:Prop} (h:p:=by rw [←HR.out,hres]):p:=h
theorem ae {p:Prop} (h:p:=by
 obtain⟨k,rfl⟩:∃k',k=k'+1:=⟨k-1,by omega⟩;obtain⟨H,hH⟩:∃H,(i+j) / 2=H:=⟨_,rfl⟩;have hH2:((i:Int)+j) / 2=(H:Int):=fR;have hHb:i≤H∧H<j:=fR;obtain⟨K,hK⟩:∃K,M+m-1-H=K:=⟨_,rfl⟩;have hK2:(M:Int)+m-1-H=(K:Int):=fR;have hKN:K<N:=fR;obtain⟨x,hx⟩:∃x,rs[K]?=some x:=⟨_,Dt fR⟩;obtain⟨y,hy⟩:∃y,rs[H]?=some y:=⟨_,Dt fR⟩;obtain⟨c1,c2⟩:=hro.at_ hx;obtain⟨c3,c4⟩:=hro.at_ hy;obtain⟨x1,x2⟩:=x;obtain⟨y1,y2⟩:=y;obtain⟨cv,hcv⟩:∃cv,cmpR (x1,x2) (y1,y2)=cv:=⟨_,rfl⟩;have HCV:Hid (∀w:World,Calls Tryz.prog 159 #[.agg #[.string ⟨(x1).toArray⟩,.string ⟨(x2).toArray⟩],.agg #[.string ⟨(y1).toArray⟩,.string ⟨(y2).toArray⟩]] w fun e w'=>e=.returned (.int .i64 cv)∧Below w.heap.size w w'):=ab (fun w=>by
  rw [←hcv];exact qU (x1,x2) (y1,y2) w)
 have d1:∀x:ExtOf wr,x.val.cell? ⟨g,(K)*2,none⟩=some (.string ⟨(x1).toArray⟩):=ExtOf.cell c1;have d2:∀x:ExtOf wr,x.val.cell? ⟨g,(K)*2+1,none⟩=some (.string ⟨(x2).toArray⟩):=ExtOf.cell c2;have d3:∀x:ExtOf wr,x.val.cell? ⟨g,(H)*2,none⟩=some (.string ⟨(y1).toArray⟩):=ExtOf.cell c3;have d4:∀x:ExtOf wr,x.val.cell? ⟨g,(H)*2+1,none⟩=some (.string ⟨(y2).toArray⟩):=ExtOf.cell c4;have HX:=ab hx;have HY:=ab hy;have HROJ:=ab hro;clear hx hy c1 c2 c3 c4;have HF2:Hid ((if cv<0 then bs (fun c=>!ltAt rs (M+m-1-c) c) k i H else bs (fun c=>!ltAt rs (M+m-1-c) c) k (H+1) j)=T):=ab (by
  have hp:(!ltAt rs (M+m-1-H) H)=!decide (cv<0):=by rw [hK,uP HX.out HY.out,hcv]
  rw [←HF.out];simp only [bs,hlt,if_true,hH,hp];by_cases hc:cv<0<;>simp [hc])
 clear hcv hH hK HF hro;go_wp2
 refine jF fW fW ?_;repeat (go_big_quiet_step ((go_at_call 159;exact kg (HCV.out _))))
 refine wpQuiet_nil ?_;rintro _ ⟨xq,rfl⟩;have hrq:RO xq.val B g cap rs:=jP HROJ.out xq.ext;have hgq:=mL hg xq.ext;clear d1 d2 d3 d4;by_cases hc0:cv<0
 ·have hc0':decide (cv<0)=true:=DN hc0
  exact fQ
 ·have hc0':decide (cv<0)=false:=DU hc0
  exact fP):p:=h
theorem ag {p:Prop} (h:p:=by
 subst hnm2;cases hlt:Op.bytesLess t c with
 | true =>
  have HF2:Hid (none=R0):=ab iQ;have HR2:Hid (Except.error 10=R):=ab io;clear HR;have HR:=HR2;clear HF ht hit hrd hok ht2 ht3 hit2 h93;go_wp2_with (go_at_call 125;refine(j6 _ HRD.out HT.out fX).mono ?_)
  rintro e w3 ⟨rfl,hrd3,hq3⟩;have hgr3:=jy hg hq3;have hown3:=ke HOWN.out hq3 fR;have HRD3:=ab hrd3;clear hrd3 hq3;go_wp2_with (go_at_call 142;refine(ls _ HRD3.out).mono ?_)
  rintro e w4 hq;have hq4:=hq.1;have hqe:=hq.2;rw [HIT.out] at hqe;obtain⟨hrd4,hqe⟩:=hqe;rcases hqe with⟨_,rfl⟩|⟨q,_⟩
  case inr=>exact absurd rfl q
  have hgr4:=jy hgr3 hq4;have hown4:=ke hown3 hq4 fR;have hlt4:=hown4.lt;obtain⟨va,vc,rfl⟩:=jX hown4;have hz4:=hgr4.size;obtain⟨w5,hw5⟩:∃w5,w5=w4.alloc (.cells #[.string ⟨(c).toArray⟩,.string ⟨(c).toArray⟩] 62):=⟨_,rfl⟩;obtain⟨hb5,hz5e,hbr5⟩:=kl w4 hw5;have hz5:w4.heap.size+1≤w5.heap.size:=fR;have HOWN5:=ab (jP hown4 hb5);have HRD5:=ab (hrd4.later hb5);have HBR5:=ab hbr5;have hgr5:=jy hgr4 (jz hb5 (some g));clear hq hq4 hrd4 hown3 hown4 hz5e hbr5 HRD3;obtain⟨ir,hir⟩:=info_parts me;go_upto_region 10 with fail
  rw [←hw5];clear hw5;obtain⟨lb,lo,lk,li,ln,l0,l1,l2,l3,l4⟩:=HRD5.out.look1;have HSEE:Hid (∀x:ExtOf w5,Calls Tryz.prog 53 #[.pointer (some ⟨g,0,none⟩)] x.val fun e w'=>e=.returned (.string ⟨(([45]:Str)).toArray⟩)∧Below x.val.heap.size x.val w'):=ab fun x=>(kq _ (HRD5.out.later x.ext)).mono fun _ _ ⟨h1,h2⟩=>⟨by rw [h1];rfl,h2.below _⟩
  have d0:∀x:ExtOf w5,x.val.cell? ⟨g,0,none⟩=some (.slice (some ⟨lb,lo,none⟩) ln lk):=ExtOf.cell l0;have d1:∀x:ExtOf w5,x.val.cell? ⟨g,1,none⟩=some (.int .i64 li):=ExtOf.cell l1;have d2:∀x:ExtOf w5,x.val.cell? ⟨lb,lo+(li+1),none⟩=some (.string ⟨(c3).toArray⟩):=ExtOf.cell l4;have gg:decide (ln≤li+1)=false:=by simp;omega
  have gg2:decide ((ln:Int)≤(li:Int)+1)=false:=by simp;omega
  have gn:((li:Int)+1).toNat=li+1:=fR;have gn0:(0:Int)≤(li:Int)+1:=fR;have gn1:(li:Int)+1<(ln:Int):=fR;have gw:IntKind.i64.wrap ((li:Int)+1)=(li:Int)+1:=IntWalk.i64_in _ fR;clear l0 l1 l4;refine jF fW fW ?_;repeat (go_big_quiet_step ((go_at_call 53;exact kg (HSEE.out _))))
  refine wpQuiet_nil ?_;rintro _ ⟨xq,rfl⟩;clear d0 d1 d2 gg gg2 gn gn0 gn1 gw;have hbyq:=(xq.ext.block _ (jA (jB HBY2.out hgr5 fR))).trans (jB HBY2.out hgr5 fR);have hrowq:=(xq.ext.block _ (jA HBR5.out)).trans HBR5.out;have hownq:=jP HOWN5.out xq.ext;have hrdq:=HRD5.out.later xq.ext;have hgrq:=jy hgr5 (jz xq.ext (some g));generalize xq.val=wq at *
  clear HSEE;obtain⟨i,hi9,c1,hf,hr6⟩:=hrdq.step;have HRD6:=ab hr6;have hgr6:=jR hgrq 1 (.int .i64 ((i:Int)+1));have HBYQ:=ab (jZ hbyq (a:=⟨g,1,none⟩) fS (.int .i64 ((i:Int)+1)));have HROWQ:=ab (jZ hrowq (a:=⟨g,1,none⟩) fS (.int .i64 ((i:Int)+1)));have HOWNQ:=ab (nl hownq (a:=⟨g,1,none⟩) fS (.int .i64 ((i:Int)+1)));clear hrdq hr6 hbyq hrowq hownq hgrq;go_wp2_with (go_at_call 142;refine(ls _ HRD6.out).mono ?_)
  rintro e w7 hq;have hq7:=hq.1;have hqe:=hq.2;rw [HIT2.out] at hqe;have hgr7:=jy hgr6 hq7;have hgw7:=jy hg2 hgr7;have hby7:=jB HBYQ.out hq7 fR;have hrow7:=jB HROWQ.out hq7 fR;have hown7:=ke HOWNQ.out hq7 fR;obtain⟨f0,f1,f2,f3,f4,f5,f6,f7,f8⟩:=jD (c:=[]) hby7;obtain⟨hrd7,hqe⟩:=hqe;rcases hqe with⟨_,rfl⟩|⟨q,_⟩
  case inr=>exact absurd rfl q
  have HRD9:=ab hrd7;clear hq hq7 hby7 hrow7 hown7 hrd7;go_wp2
  refine DX (v:=.tuple #[.agg #[.int .i64 0,.string ⟨([]).toArray⟩,.bool false,.slice none 0 0,.int .i64 0,.int .i64 0,.bool false,.slice none 0 0],.int .i64 10]) gl rfl ?_;refine⟨?_,?_⟩
  ·iterate 8 (refine jJ ?_ fS _)
   exact hgw7
  ·rw [←HR.out]
   exact eL
 | false =>
  have HF2:Hid (kp n (rows++[(c,t)]) r4=R0):=ab iQ;clear HF ht hit hrd hok ht2 ht3 hit2 h93;go_wp2_with (go_at_call 125;refine(j6 _ HRD.out HT.out fX).mono ?_)
  rintro e w3 ⟨rfl,hrd3,hq3⟩;have hgr3:=jy hg hq3;have hown3:=ke HOWN.out hq3 fR;have HRD3:=ab hrd3;clear hrd3 hq3;go_wp2_with (go_at_call 142;refine(ls _ HRD3.out).mono ?_)
  rintro e w4 hq;have hq4:=hq.1;have hqe:=hq.2;rw [HIT.out] at hqe;obtain⟨hrd4,hqe⟩:=hqe;rcases hqe with⟨_,rfl⟩|⟨q,_⟩
  case inr=>exact absurd rfl q
  have hgr4:=jy hgr3 hq4;have hown4:=ke hown3 hq4 fR;have hlt4:=hown4.lt;obtain⟨va,vc,rfl⟩:=jX hown4;have hz4:=hgr4.size;obtain⟨w5,hw5⟩:∃w5,w5=w4.alloc (.cells #[.string ⟨(c).toArray⟩,.string ⟨(c).toArray⟩] 62):=⟨_,rfl⟩;obtain⟨hb5,hz5e,hbr5⟩:=kl w4 hw5;have hz5:w4.heap.size+1≤w5.heap.size:=fR;have HOWN5:=ab (jP hown4 hb5);have HRD5:=ab (hrd4.later hb5);have HBR5:=ab hbr5;have hgr5:=jy hgr4 (jz hb5 (some g));clear hq hq4 hrd4 hown3 hown4 hz5e hbr5 HRD3;obtain⟨ir,hir⟩:=info_parts me;go_upto_region 10 with fail
  rw [←hw5];clear hw5;obtain⟨lb,lo,lk,li,ln,l0,l1,l2,l3,l4⟩:=HRD5.out.look1;have HSEE:Hid (∀x:ExtOf w5,Calls Tryz.prog 53 #[.pointer (some ⟨g,0,none⟩)] x.val fun e w'=>e=.returned (.string ⟨(([45]:Str)).toArray⟩)∧Below x.val.heap.size x.val w'):=ab fun x=>(kq _ (HRD5.out.later x.ext)).mono fun _ _ ⟨h1,h2⟩=>⟨by rw [h1];rfl,h2.below _⟩
  have d0:∀x:ExtOf w5,x.val.cell? ⟨g,0,none⟩=some (.slice (some ⟨lb,lo,none⟩) ln lk):=ExtOf.cell l0;have d1:∀x:ExtOf w5,x.val.cell? ⟨g,1,none⟩=some (.int .i64 li):=ExtOf.cell l1;have d2:∀x:ExtOf w5,x.val.cell? ⟨lb,lo+(li+1),none⟩=some (.string ⟨(c3).toArray⟩):=ExtOf.cell l4;have gg:decide (ln≤li+1)=false:=by simp;omega
  have gg2:decide ((ln:Int)≤(li:Int)+1)=false:=by simp;omega
  have gn:((li:Int)+1).toNat=li+1:=fR;have gn0:(0:Int)≤(li:Int)+1:=fR;have gn1:(li:Int)+1<(ln:Int):=fR;have gw:IntKind.i64.wrap ((li:Int)+1)=(li:Int)+1:=IntWalk.i64_in _ fR;clear l0 l1 l4;refine jF fW fW ?_;repeat (go_big_quiet_step ((go_at_call 53;exact kg (HSEE.out _))))
  refine wpQuiet_nil ?_;rintro _ ⟨xq,rfl⟩;clear d0 d1 d2 gg gg2 gn gn0 gn1 gw;have hbyq:=(xq.ext.block _ (jA (jB HBY2.out hgr5 fR))).trans (jB HBY2.out hgr5 fR);have hrowq:=(xq.ext.block _ (jA HBR5.out)).trans HBR5.out;have hownq:=jP HOWN5.out xq.ext;have hrdq:=HRD5.out.later xq.ext;have hgrq:=jy hgr5 (jz xq.ext (some g));generalize xq.val=wq at *
  clear HSEE;obtain⟨i,hi9,c1,hf,hr6⟩:=hrdq.step;have HRD6:=ab hr6;have hgr6:=jR hgrq 1 (.int .i64 ((i:Int)+1));have HBYQ:=ab (jZ hbyq (a:=⟨g,1,none⟩) fS (.int .i64 ((i:Int)+1)));have HROWQ:=ab (jZ hrowq (a:=⟨g,1,none⟩) fS (.int .i64 ((i:Int)+1)));have HOWNQ:=ab (nl hownq (a:=⟨g,1,none⟩) fS (.int .i64 ((i:Int)+1)));clear hrdq hr6 hbyq hrowq hownq hgrq;go_wp2_with (go_at_call 142;refine(ls _ HRD6.out).mono ?_)
  rintro e w7 hq;have hq7:=hq.1;have hqe:=hq.2;rw [HIT2.out] at hqe;have hgr7:=jy hgr6 hq7;have hgw7:=jy hg2 hgr7;have hby7:=jB HBYQ.out hq7 fR;have hrow7:=jB HROWQ.out hq7 fR;have hown7:=ke HOWNQ.out hq7 fR;obtain⟨f0,f1,f2,f3,f4,f5,f6,f7,f8⟩:=jD (c:=[]) hby7;obtain⟨hrd7,hqe⟩:=hqe;rcases hqe with⟨_,rfl⟩|⟨q,_⟩
  case inr=>exact absurd rfl q
  have hrc7:w7.cell? ⟨w4.heap.size,1,none⟩=some (.string ⟨(c).toArray⟩):=by rw [DB hrow7];rfl
  have hrc70:w7.cell? ⟨w4.heap.size,0,none⟩=some (.string ⟨(c).toArray⟩):=by rw [DB hrow7];rfl
  have hfr7:w7.frozen? ⟨w4.heap.size,1,none⟩=false:=by unfold World.frozen?;rw [hrow7];rfl
  have hrowq:(w7.setCell ⟨w4.heap.size,1,none⟩ (.string ⟨(t).toArray⟩)).heap[w4.heap.size]?=some (.cells #[.string ⟨(c).toArray⟩,.string ⟨(t).toArray⟩] 62 (0,0)):=by
   rw [heap_setCell_same w7 _ _ _ _ _ hrow7];rfl
  have hownq:=qN hown7 (a:=⟨w4.heap.size,1,none⟩) (fun e=>by have:=(hlt4 _ e).2;simp at this) (.string ⟨(t).toArray⟩);have hrdq:=hrd7.setHi (a:=⟨w4.heap.size,1,none⟩) fY (.string ⟨(t).toArray⟩);have hgrq:=jJ hgr7 (a:=⟨w4.heap.size,1,none⟩) fS (.string ⟨(t).toArray⟩);clear hq hq7 hby7 hrow7 hown7 hrd7;have hrc0:(w7.setCell ⟨w4.heap.size,1,none⟩ (.string ⟨(t).toArray⟩)).cell? ⟨w4.heap.size,0,none⟩=some (.string ⟨(c).toArray⟩):=by rw [DB hrowq];rfl
  have hrc1:(w7.setCell ⟨w4.heap.size,1,none⟩ (.string ⟨(t).toArray⟩)).cell? ⟨w4.heap.size,1,none⟩=some (.string ⟨(t).toArray⟩):=by rw [DB hrowq];rfl
  have hbn:Below (w7.setCell ⟨w4.heap.size,1,none⟩ (.string ⟨(t).toArray⟩)).heap.size (w7.setCell ⟨w4.heap.size,1,none⟩ (.string ⟨(t).toArray⟩)) ((w7.setCell ⟨w4.heap.size,1,none⟩ (.string ⟨(t).toArray⟩)).alloc (.cells #[.string ⟨(c).toArray⟩,.string ⟨(t).toArray⟩] 62)):=(Below.refl _ _).alloc (Dv _) _;have HO6:=ab (jP hownq hbn);have hsl6:Sl ((w7.setCell ⟨w4.heap.size,1,none⟩ (.string ⟨(t).toArray⟩)).alloc (.cells #[.string ⟨(c).toArray⟩,.string ⟨(t).toArray⟩] 62)) ((w7.setCell ⟨w4.heap.size,1,none⟩ (.string ⟨(t).toArray⟩)).alloc (.cells #[.string ⟨(c).toArray⟩,.string ⟨(t).toArray⟩] 62)).heap.size (some ⟨w7.heap.size,0,none⟩) 2 1 (jN [(c,t)]):=by
   rw [show w7.heap.size=(w7.setCell ⟨w4.heap.size,1,none⟩ (.string ⟨(t).toArray⟩)).heap.size from by first|rfl|simp [World.setCell]];exact Sl.lit (n:=1) (sz:=2) (heap_alloc_new (w7.setCell ⟨w4.heap.size,1,none⟩ (.string ⟨(t).toArray⟩)) (.cells #[.string ⟨(c).toArray⟩,.string ⟨(t).toArray⟩] 62)) rfl
  have HSL6:=ab hsl6;clear hsl6;have HRD6:=ab (hrdq.later hbn);have hgr6:=jy hgrq (jz hbn (some g));have hz6:=hgr6.size;clear hrowq hownq hrdq hgrq hbn;go_wp2_with (at_builtin;refine kf w2.heap.size 62 rfl _ _ 22 rfl Tryz.underlying22 hir rfl fU rfl (HO6.out) rfl (HSL6.out) (lN [(c,t)]) fR fR fU hz6 ?_)
  intro v7 w7 hown7 hq7 hb7 _;have hown8:w7.ownsRow w2.heap.size 62 2 v7 (rows++[(c,t)]).length (jN (rows++[(c,t)])):=by
   rw [DE,show jN (rows++[(c,t)])=jN rows++jN [(c,t)] from by simp [jN]];exact hown7
  have hrd7:=HRD6.out.grownHi hq7 (fun k hk=>by have:=(hlt4 k hk).1;omega);have hgr7:w2.grownBy w7 (some g):=mO hgr6 hb7 fR;have hrl7:=qQ (nm:=[(c,t)]) HRL.out fY;clear hown7 hq7 hb7;go_wp2
  go_roundg n
  case measure=>omega
  case rel=>exact⟨rows++[(c,t)],r4,hown8,hrd7,hgr7,by simp at *;omega,by simp at *;omega,hrl7,HF2⟩):p:=h
theorem ah {p:Prop} (h:p:=by
 have HR:Hid (Except.error 10=R):=ab hR;clear hR hp hl;obtain⟨w0,hw0⟩:∃w0,w0=w.alloc (.cells #[.int .i64 0,.string ⟨#[]⟩,.bool false,.slice none 0 0,.int .i64 0,.int .i64 0,.bool false,.slice none 0 0] 25):=⟨_,rfl⟩;obtain⟨hb0,hz0,hby0⟩:=kl w hw0;have HRD:=ab (h.later hb0);rw [hw0] at HRD;have HW0:=ab hw0;have HBY0:=ab hby0;have hgg:w.grownBy w0 (some g):=jz hb0 _;have hgr:g<w.heap.size:=h.lt;clear hw0 hby0 h;go_enter Tryz.func99,Tryz.ntmps99
 go_wp2_with (go_at_call 120;refine(j8 _ HRD.out).mono ?_)
 rintro e w1 ⟨rfl,hrd1,hq1⟩;rw [←HW0.out] at hq1;have hg1:=jy hgg hq1;have HRD1:=ab hrd1;have HBY1:=ab (jB HBY0.out hq1 fR);have hz1:=hq1.size;clear hrd1 hq1;obtain⟨f0,f1,f2,f3,f4,f5,f6,f7,f8⟩:=jD (c:=[]) HBY1.out;go_wp2
 refine DX (v:=.tuple #[.agg #[.int .i64 0,.string ⟨([]).toArray⟩,.bool false,.slice none 0 0,.int .i64 0,.int .i64 0,.bool false,.slice none 0 0],.int .i64 10]) gz rfl ?_;refine⟨?_,?_⟩
 ·iterate 8 (refine jJ ?_ fS _)
  exact hg1
 ·rw [←HR.out]
  exact eY):p:=h
theorem ai {p:Prop} (h:p:=by
 have HQT:=ab (sV _ HRD6.out hxv6 hz6 fR);clear hat hxv hxv0 hrs hks hrd2 hby2 hb6 hxv6 hz6;unfold rxc at HQT ⊢;go_wp2_with (go_at_call 100;refine HQT.out.mono ?_)
 rintro e w8 hq;clear HQT;cases hres:kz (.mk k c ng rs lo hi lz ks) r3 with
 | error q =>
  rw [hres] at hq;obtain⟨hq8,rfl,r9,hrd9⟩:=hq;have HR2:Hid (Except.error q=R):=ab jx;have HR:=HR2;have hg8:=jy hg6 hq8;have HRD9:=ab hrd9;obtain⟨f0,f1,f2,f3,f4,f5,f6,f7,f8⟩:=jD (c:=[]) (jB HBY6.out hq8 fR);clear hres hq8 hrd9;unfold rxv0;go_wp2
  refine DX (v:=.tuple #[.agg #[.int .i64 0,.string ⟨([]).toArray⟩,.bool false,.slice none 0 0,.int .i64 0,.int .i64 0,.bool false,.slice none 0 0],.int .i64 q]) gp rfl ?_;refine⟨?_,?_⟩
  ·exact fN
  ·rw [←HR.out]
   exact eL
 | ok y =>
  obtain⟨x,r3⟩:=y;rw [hres] at hq;obtain⟨hq8,cc,rfl,hxv,hrd9⟩:=hq;have HR2:Hid (Except.ok (x,r3)=R):=ab jx;have HR:=HR2;have hg8:=jy hg6 hq8;have HRD9:=ab hrd9;obtain⟨k,c,ng,rs,lo,hi,lz,ks⟩:=x;have hxv0:=hxv;obtain⟨ra,rc,ka,kc,rfl,hrs,hks⟩:=hxv.open_;have HXV:=ab (hxv0.mono (S':=fun b=>w.heap.size≤b∧b≠w.heap.size) fun b hb hlt=>by have:=hz2;constructor<;>omega);obtain⟨f0,f1,f2,f3,f4,f5,f6,f7,f8⟩:=jD (c:=[]) (jB HBY6.out hq8 fR);clear hres hq8 hrd9 hxv hxv0 hrs hks;unfold rxc at HXV ⊢;go_wp2
  refine DX (v:=.tuple #[.agg #[.int .i64 k,.string ⟨(c).toArray⟩,.bool ng,.slice ra rs.length rc,.int .i64 lo,.int .i64 hi,.bool lz,.slice ka ks.length kc],.int .i64 0]) gp rfl ?_;refine⟨?_,?_⟩
  ·exact fN
  rw [←HR.out];refine⟨rxc k c ng ra rs.length rc lo hi lz ka ks.length kc,rfl,RxV.mono (S:=fun b=>w.heap.size≤b∧b≠w.heap.size) (fun b hb _=>hb.1) ?_,?_⟩
  ·iterate 8 (refine RxV.keep (Kept.setLow _ (fun b hb=>by have:w.heap.size≤b∧b≠w.heap.size:=hb;first|omega|(simp;done)|(simp;omega))) ?_)
   exact HXV.out
  ·iterate 8 (refine RdT.setHi ?_ fS _)
   exact HRD9.out):p:=h
theorem aj {p:Prop} (h:p:=by
 subst h93;have HF2:Hid (kp n (rows++[(c,c)]) ([45]::[93]::r3)=R0):=ab (by rw [←HF.out];simp only [kp,ht,hit,ht2];simp [jQ]);clear HF ht hit hrd hok ht2;go_wp2_with (go_at_call 125;refine(j6 _ HRD.out HT.out fX).mono ?_)
 rintro e w3 ⟨rfl,hrd3,hq3⟩;have hgr3:=jy hg hq3;have hown3:=ke HOWN.out hq3 fR;have HRD3:=ab hrd3;clear hrd3 hq3;go_wp2_with (go_at_call 142;refine(ls _ HRD3.out).mono ?_)
 rintro e w4 hq;have hq4:=hq.1;have hqe:=hq.2;rw [HIT.out] at hqe;obtain⟨hrd4,hqe⟩:=hqe;rcases hqe with⟨_,rfl⟩|⟨q,_⟩
 case inr=>exact absurd rfl q
 have hgr4:=jy hgr3 hq4;have hown4:=ke hown3 hq4 fR;have hlt4:=hown4.lt;obtain⟨va,vc,rfl⟩:=jX hown4;have hz4:=hgr4.size;obtain⟨w5,hw5⟩:∃w5,w5=w4.alloc (.cells #[.string ⟨(c).toArray⟩,.string ⟨(c).toArray⟩] 62):=⟨_,rfl⟩;obtain⟨hb5,hz5e,hbr5⟩:=kl w4 hw5;have hz5:w4.heap.size+1≤w5.heap.size:=fR;have HOWN5:=ab (jP hown4 hb5);have HRD5:=ab (hrd4.later hb5);have HBR5:=ab hbr5;have hgr5:=jy hgr4 (jz hb5 (some g));clear hq hq4 hrd4 hown3 hown4 hz5e hbr5 HRD3;obtain⟨ir,hir⟩:=info_parts me;go_upto_region 10 with fail
 rw [←hw5];clear hw5;obtain⟨lb,lo,lk,li,ln,l0,l1,l2,l3,l4⟩:=HRD5.out.look1;have HSEE:Hid (∀x:ExtOf w5,Calls Tryz.prog 53 #[.pointer (some ⟨g,0,none⟩)] x.val fun e w'=>e=.returned (.string ⟨(([45]:Str)).toArray⟩)∧Below x.val.heap.size x.val w'):=ab fun x=>(kq _ (HRD5.out.later x.ext)).mono fun _ _ ⟨h1,h2⟩=>⟨by rw [h1];rfl,h2.below _⟩
 have d0:∀x:ExtOf w5,x.val.cell? ⟨g,0,none⟩=some (.slice (some ⟨lb,lo,none⟩) ln lk):=ExtOf.cell l0;have d1:∀x:ExtOf w5,x.val.cell? ⟨g,1,none⟩=some (.int .i64 li):=ExtOf.cell l1;have d2:∀x:ExtOf w5,x.val.cell? ⟨lb,lo+(li+1),none⟩=some (.string ⟨([93]).toArray⟩):=ExtOf.cell l4;have gg:decide (ln≤li+1)=false:=by simp;omega
 have gg2:decide ((ln:Int)≤(li:Int)+1)=false:=by simp;omega
 have gn:((li:Int)+1).toNat=li+1:=fR;have gn0:(0:Int)≤(li:Int)+1:=fR;have gn1:(li:Int)+1<(ln:Int):=fR;have gw:IntKind.i64.wrap ((li:Int)+1)=(li:Int)+1:=IntWalk.i64_in _ fR;clear l0 l1 l4;refine jF fW fW ?_;repeat (go_big_quiet_step ((go_at_call 53;exact kg (HSEE.out _))))
 refine wpQuiet_nil ?_;rintro _ ⟨xq,rfl⟩;clear d0 d1 d2 gg gg2 gn gn0 gn1 gw;have hrowq:=(xq.ext.block _ (jA HBR5.out)).trans HBR5.out;have hownq:=jP HOWN5.out xq.ext;have hrdq:=HRD5.out.later xq.ext;have hgrq:=jy hgr5 (jz xq.ext (some g));generalize xq.val=wq at *
 clear HSEE;have hrc0:(wq).cell? ⟨w4.heap.size,0,none⟩=some (.string ⟨(c).toArray⟩):=by rw [DB hrowq];rfl
 have hrc1:(wq).cell? ⟨w4.heap.size,1,none⟩=some (.string ⟨(c).toArray⟩):=by rw [DB hrowq];rfl
 have hbn:Below (wq).heap.size (wq) ((wq).alloc (.cells #[.string ⟨(c).toArray⟩,.string ⟨(c).toArray⟩] 62)):=(Below.refl _ _).alloc (Dv _) _;have HO6:=ab (jP hownq hbn);have hsl6:Sl ((wq).alloc (.cells #[.string ⟨(c).toArray⟩,.string ⟨(c).toArray⟩] 62)) ((wq).alloc (.cells #[.string ⟨(c).toArray⟩,.string ⟨(c).toArray⟩] 62)).heap.size (some ⟨wq.heap.size,0,none⟩) 2 1 (jN [(c,c)]):=by
  exact fb
 have HSL6:=ab hsl6;clear hsl6;have HRD6:=ab (hrdq.later hbn);have hgr6:=jy hgrq (jz hbn (some g));have hz6:=hgr6.size;clear hrowq hownq hrdq hgrq hbn;go_wp2_with (at_builtin;refine kf w2.heap.size 62 rfl _ _ 22 rfl Tryz.underlying22 hir rfl fU rfl (HO6.out) rfl (HSL6.out) (lN [(c,c)]) fR fR fU hz6 ?_)
 intro v7 w7 hown7 hq7 hb7 _;have hown8:w7.ownsRow w2.heap.size 62 2 v7 (rows++[(c,c)]).length (jN (rows++[(c,c)])):=by
  exact fC
 have hrd7:=HRD6.out.grownHi hq7 (fun k hk=>by have:=(hlt4 k hk).1;omega);have hgr7:w2.grownBy w7 (some g):=mO hgr6 hb7 fR;have hrl7:=qQ (nm:=[(c,c)]) HRL.out fY;clear hown7 hq7 hb7;go_wp2
 go_roundg n
 case measure=>omega
 case rel=>exact⟨rows++[(c,c)],([45]::[93]::r3),hown8,hrd7,hgr7,by simp at *;omega,by simp at *;omega,hrl7,HF2⟩):p:=h
theorem am {p:Prop} (h:p:=by
 have HF2:Hid (none=R0):=ab (by rw [←HF.out];simp only [kp,ht,hit,ht2,ht3,hit2];simp);have HR2:Hid (Except.error 10=R):=ab io;clear HR;have HR:=HR2;have HIT2:=ab hit2;clear HF ht hit hrd hok ht2 ht3 hit2 h93;go_wp2_with (go_at_call 125;refine(j6 _ HRD.out HT.out fX).mono ?_)
 rintro e w3 ⟨rfl,hrd3,hq3⟩;have hgr3:=jy hg hq3;have hown3:=ke HOWN.out hq3 fR;have HRD3:=ab hrd3;clear hrd3 hq3;go_wp2_with (go_at_call 142;refine(ls _ HRD3.out).mono ?_)
 rintro e w4 hq;have hq4:=hq.1;have hqe:=hq.2;rw [HIT.out] at hqe;obtain⟨hrd4,hqe⟩:=hqe;rcases hqe with⟨_,rfl⟩|⟨q,_⟩
 case inr=>exact absurd rfl q
 have hgr4:=jy hgr3 hq4;have hown4:=ke hown3 hq4 fR;have hlt4:=hown4.lt;obtain⟨va,vc,rfl⟩:=jX hown4;have hz4:=hgr4.size;obtain⟨w5,hw5⟩:∃w5,w5=w4.alloc (.cells #[.string ⟨(c).toArray⟩,.string ⟨(c).toArray⟩] 62):=⟨_,rfl⟩;obtain⟨hb5,hz5e,hbr5⟩:=kl w4 hw5;have hz5:w4.heap.size+1≤w5.heap.size:=fR;have HOWN5:=ab (jP hown4 hb5);have HRD5:=ab (hrd4.later hb5);have HBR5:=ab hbr5;have hgr5:=jy hgr4 (jz hb5 (some g));clear hq hq4 hrd4 hown3 hown4 hz5e hbr5 HRD3;obtain⟨ir,hir⟩:=info_parts me;go_upto_region 10 with fail
 rw [←hw5];clear hw5;obtain⟨lb,lo,lk,li,ln,l0,l1,l2,l3,l4⟩:=HRD5.out.look1;have HSEE:Hid (∀x:ExtOf w5,Calls Tryz.prog 53 #[.pointer (some ⟨g,0,none⟩)] x.val fun e w'=>e=.returned (.string ⟨(([45]:Str)).toArray⟩)∧Below x.val.heap.size x.val w'):=ab fun x=>(kq _ (HRD5.out.later x.ext)).mono fun _ _ ⟨h1,h2⟩=>⟨by rw [h1];rfl,h2.below _⟩
 have d0:∀x:ExtOf w5,x.val.cell? ⟨g,0,none⟩=some (.slice (some ⟨lb,lo,none⟩) ln lk):=ExtOf.cell l0;have d1:∀x:ExtOf w5,x.val.cell? ⟨g,1,none⟩=some (.int .i64 li):=ExtOf.cell l1;have d2:∀x:ExtOf w5,x.val.cell? ⟨lb,lo+(li+1),none⟩=some (.string ⟨(c3).toArray⟩):=ExtOf.cell l4;have gg:decide (ln≤li+1)=false:=by simp;omega
 have gg2:decide ((ln:Int)≤(li:Int)+1)=false:=by simp;omega
 have gn:((li:Int)+1).toNat=li+1:=fR;have gn0:(0:Int)≤(li:Int)+1:=fR;have gn1:(li:Int)+1<(ln:Int):=fR;have gw:IntKind.i64.wrap ((li:Int)+1)=(li:Int)+1:=IntWalk.i64_in _ fR;clear l0 l1 l4;refine jF fW fW ?_;repeat (go_big_quiet_step ((go_at_call 53;exact kg (HSEE.out _))))
 refine wpQuiet_nil ?_;rintro _ ⟨xq,rfl⟩;clear d0 d1 d2 gg gg2 gn gn0 gn1 gw;have hbyq:=(xq.ext.block _ (jA (jB HBY2.out hgr5 fR))).trans (jB HBY2.out hgr5 fR);have hrowq:=(xq.ext.block _ (jA HBR5.out)).trans HBR5.out;have hownq:=jP HOWN5.out xq.ext;have hrdq:=HRD5.out.later xq.ext;have hgrq:=jy hgr5 (jz xq.ext (some g));generalize xq.val=wq at *
 clear HSEE;obtain⟨i,hi9,c1,hf,hr6⟩:=hrdq.step;have HRD6:=ab hr6;have hgr6:=jR hgrq 1 (.int .i64 ((i:Int)+1));have HBYQ:=ab (jZ hbyq (a:=⟨g,1,none⟩) fS (.int .i64 ((i:Int)+1)));have HROWQ:=ab (jZ hrowq (a:=⟨g,1,none⟩) fS (.int .i64 ((i:Int)+1)));have HOWNQ:=ab (nl hownq (a:=⟨g,1,none⟩) fS (.int .i64 ((i:Int)+1)));clear hrdq hr6 hbyq hrowq hownq hgrq;go_wp2_with (go_at_call 142;refine(ls _ HRD6.out).mono ?_)
 rintro e w7 hq;have hq7:=hq.1;have hqe:=hq.2;rw [HIT2.out] at hqe;have hgr7:=jy hgr6 hq7;have hgw7:=jy hg2 hgr7;have hby7:=jB HBYQ.out hq7 fR;have hrow7:=jB HROWQ.out hq7 fR;have hown7:=ke HOWNQ.out hq7 fR;obtain⟨f0,f1,f2,f3,f4,f5,f6,f7,f8⟩:=jD (c:=[]) hby7;obtain⟨hqe',r9,hrd9⟩:e=.returned (.tuple #[.string ⟨#[]⟩,.slice none 0 0,.int .i64 10])∧∃r,Rd w7 g r d:=hqe;subst hqe';have HRD9:=ab hrd9;clear hq hq7 hby7 hrow7 hown7 hrd9;go_wp2
 refine DX (v:=.tuple #[.agg #[.int .i64 0,.string ⟨([]).toArray⟩,.bool false,.slice none 0 0,.int .i64 0,.int .i64 0,.bool false,.slice none 0 0],.int .i64 10]) gl rfl ?_;refine⟨?_,?_⟩
 ·iterate 8 (refine jJ ?_ fS _)
  exact hgw7
 ·rw [←HR.out]
  exact eL):p:=h
theorem ap {p:Prop} (h:p:=by
 have HF2:Hid (none=R0):=ab (by rw [←HF.out];simp only [kp,ht,hit,ht2,ht3,hit2];simp [hnm2]);have HR2:Hid (Except.error 10=R):=ab io;clear HR;have HR:=HR2;have HNM2:=ab hnm2;clear HF ht hit hrd hok ht2 ht3 hit2 h93 hnm2;go_wp2_with (go_at_call 125;refine(j6 _ HRD.out HT.out fX).mono ?_)
 rintro e w3 ⟨rfl,hrd3,hq3⟩;have hgr3:=jy hg hq3;have hown3:=ke HOWN.out hq3 fR;have HRD3:=ab hrd3;clear hrd3 hq3;go_wp2_with (go_at_call 142;refine(ls _ HRD3.out).mono ?_)
 rintro e w4 hq;have hq4:=hq.1;have hqe:=hq.2;rw [HIT.out] at hqe;obtain⟨hrd4,hqe⟩:=hqe;rcases hqe with⟨_,rfl⟩|⟨q,_⟩
 case inr=>exact absurd rfl q
 have hgr4:=jy hgr3 hq4;have hown4:=ke hown3 hq4 fR;have hlt4:=hown4.lt;obtain⟨va,vc,rfl⟩:=jX hown4;have hz4:=hgr4.size;obtain⟨w5,hw5⟩:∃w5,w5=w4.alloc (.cells #[.string ⟨(c).toArray⟩,.string ⟨(c).toArray⟩] 62):=⟨_,rfl⟩;obtain⟨hb5,hz5e,hbr5⟩:=kl w4 hw5;have hz5:w4.heap.size+1≤w5.heap.size:=fR;have HOWN5:=ab (jP hown4 hb5);have HRD5:=ab (hrd4.later hb5);have HBR5:=ab hbr5;have hgr5:=jy hgr4 (jz hb5 (some g));clear hq hq4 hrd4 hown3 hown4 hz5e hbr5 HRD3;obtain⟨ir,hir⟩:=info_parts me;go_upto_region 10 with fail
 rw [←hw5];clear hw5;obtain⟨lb,lo,lk,li,ln,l0,l1,l2,l3,l4⟩:=HRD5.out.look1;have HSEE:Hid (∀x:ExtOf w5,Calls Tryz.prog 53 #[.pointer (some ⟨g,0,none⟩)] x.val fun e w'=>e=.returned (.string ⟨(([45]:Str)).toArray⟩)∧Below x.val.heap.size x.val w'):=ab fun x=>(kq _ (HRD5.out.later x.ext)).mono fun _ _ ⟨h1,h2⟩=>⟨by rw [h1];rfl,h2.below _⟩
 have d0:∀x:ExtOf w5,x.val.cell? ⟨g,0,none⟩=some (.slice (some ⟨lb,lo,none⟩) ln lk):=ExtOf.cell l0;have d1:∀x:ExtOf w5,x.val.cell? ⟨g,1,none⟩=some (.int .i64 li):=ExtOf.cell l1;have d2:∀x:ExtOf w5,x.val.cell? ⟨lb,lo+(li+1),none⟩=some (.string ⟨(c3).toArray⟩):=ExtOf.cell l4;have gg:decide (ln≤li+1)=false:=by simp;omega
 have gg2:decide ((ln:Int)≤(li:Int)+1)=false:=by simp;omega
 have gn:((li:Int)+1).toNat=li+1:=fR;have gn0:(0:Int)≤(li:Int)+1:=fR;have gn1:(li:Int)+1<(ln:Int):=fR;have gw:IntKind.i64.wrap ((li:Int)+1)=(li:Int)+1:=IntWalk.i64_in _ fR;clear l0 l1 l4;refine jF fW fW ?_;repeat (go_big_quiet_step ((go_at_call 53;exact kg (HSEE.out _))))
 refine wpQuiet_nil ?_;rintro _ ⟨xq,rfl⟩;clear d0 d1 d2 gg gg2 gn gn0 gn1 gw;have hbyq:=(xq.ext.block _ (jA (jB HBY2.out hgr5 fR))).trans (jB HBY2.out hgr5 fR);have hrowq:=(xq.ext.block _ (jA HBR5.out)).trans HBR5.out;have hownq:=jP HOWN5.out xq.ext;have hrdq:=HRD5.out.later xq.ext;have hgrq:=jy hgr5 (jz xq.ext (some g));generalize xq.val=wq at *
 clear HSEE;obtain⟨i,hi9,c1,hf,hr6⟩:=hrdq.step;have HRD6:=ab hr6;have hgr6:=jR hgrq 1 (.int .i64 ((i:Int)+1));have HBYQ:=ab (jZ hbyq (a:=⟨g,1,none⟩) fS (.int .i64 ((i:Int)+1)));have HROWQ:=ab (jZ hrowq (a:=⟨g,1,none⟩) fS (.int .i64 ((i:Int)+1)));have HOWNQ:=ab (nl hownq (a:=⟨g,1,none⟩) fS (.int .i64 ((i:Int)+1)));clear hrdq hr6 hbyq hrowq hownq hgrq;go_wp2_with (go_at_call 142;refine(ls _ HRD6.out).mono ?_)
 rintro e w7 hq;have hq7:=hq.1;have hqe:=hq.2;rw [HIT2.out] at hqe;have hgr7:=jy hgr6 hq7;have hgw7:=jy hg2 hgr7;have hby7:=jB HBYQ.out hq7 fR;have hrow7:=jB HROWQ.out hq7 fR;have hown7:=ke HOWNQ.out hq7 fR;obtain⟨f0,f1,f2,f3,f4,f5,f6,f7,f8⟩:=jD (c:=[]) hby7;obtain⟨hrd7,hqe⟩:=hqe;rcases hqe with⟨q,_⟩|⟨_,la2,lk2,rfl,_⟩
 case inl=>exact absurd q HNM2.out
 have HRD9:=ab hrd7;clear hq hq7 hby7 hrow7 hown7 hrd7;go_wp2
 refine DX (v:=.tuple #[.agg #[.int .i64 0,.string ⟨([]).toArray⟩,.bool false,.slice none 0 0,.int .i64 0,.int .i64 0,.bool false,.slice none 0 0],.int .i64 10]) gl rfl ?_;refine⟨?_,?_⟩
 ·iterate 8 (refine jJ ?_ fS _)
  exact hgw7
 ·rw [←HR.out]
  exact eL):p:=h
theorem aq {p:Prop} (h:p:=by
 obtain⟨k,ac,hk,rfl,hblr,hfrr,hacl,HF⟩:=hrel;clear HT0 z3;have hBr:B≤wr.heap.size:=Dz hB1 hfrr.size;have hbB:=hfrr.below hB1 (by simp;exact hbl.le);have hgl:=hblr.lt;cases hd:rs.drop k with
 | nil =>
  have h2:rs.length≤k:=gm;have HE:Hid (ac=T):=ab (by rw [←HF.out,hd];simp);clear hd HF;go_wp2_with (go_at_call 46;refine(jW B _ (ac) 93 _ (hblr) fS fS fU fU).mono ?_)
  first|rintro e w9 rfl hbl9 hfr9|rintro e w9 ⟨rfl,hbl9,hfr9⟩
  go_wp2_with fail
  go_end0
  refine⟨rfl,?_,((((Fr.refl B [g] [5] w).alloc _).trans HFR0.out).trans hfrr).trans hfr9⟩;have h:=hbl9;rw [HE.out,←HTT.out] at h;simpa [setS] using h
 | cons r0 r =>
  obtain⟨h2,h3,hr0⟩:=jO hd;obtain⟨n1,n2⟩:=HNE.out r0 (DL h3);obtain⟨b,o,rfl,hbb,c0,c1⟩:=(HR1.out.keep hbB).row h3;obtain⟨f,t⟩:=r0;replace n1:f≠[]:=n1;replace n2:t≠[]:=n2;replace c0:wr.cell? ⟨b,o+k*2,none⟩=some (.string ⟨(f).toArray⟩):=c0;replace c1:wr.cell? ⟨b,o+k*2+1,none⟩=some (.string ⟨(t).toArray⟩):=c1;have HE:Hid (ac++(rowS (f,t)++r.flatMap rowS)=T):=ab gC;have Hr:=ab hr0;have hsl:ac.length+(escL th2 f).length+(if t=f then 0 else(escL th2 t).length+1)≤15000000:=by
   exact fF
  obtain⟨l1,l2⟩:=HSZ.out (f,t) (DL h3);replace l1:f.length≤1000000:=l1;replace l2:t.length≤1000000:=l2;have q1:=oI th2 f;have q2:=oI th2 t;have N1:=ab n1;have N2:=ab n2;clear hd HF hr0 h3 n1 n2;go_wp2_with (first|(go_at_call 47;refine(qn _ _ _ N1.out fR).mono ?_;rintro e w2 ⟨rfl,rfl⟩;rw [show [94,45,92,91,93,47]=th2 from rfl])|(go_at_call 35;refine(jU B _ (ac) _ _ (hblr.alloc _) fS fS fS).mono ?_))
  first|rintro e w2 rfl hbl2 hfr2|rintro e w2 ⟨rfl,hbl2,hfr2⟩
  have hbx2:=hfr2.held (heap_alloc_new wr _) fU (Nat.ne_of_gt hgl);have y0:w2.cell? ⟨wr.heap.size,0,none⟩=some (.string ⟨(f).toArray⟩):=by rw [DB hbx2];rfl
  have y1:w2.cell? ⟨wr.heap.size,1,none⟩=some (.string ⟨(t).toArray⟩):=by rw [DB hbx2];rfl
  have hf2:=((Fr.refl B [g] [5] wr).alloc _).trans hfr2;have hB2:B≤w2.heap.size:=Dz hBr hf2.size;have HFR2:=ab (hfrr.trans hf2);have HBX2:=ab hbx2;clear hbx2 hf2 hfr2;by_cases htf:t=f
  ·have HT2:=ab htf
   subst htf;go_wp2
   go_roundw
   case rel=>exact⟨k+1,ac++escL th2 t,by omega,by go_num,hbl2,HFR2.out,by simp only [DE];simp at hsl;omega,ab (by rw [Hr.out,←HE.out];simp [rowS])⟩
   case measure=>simp [intOf];omega
  ·have hne:(t==f)=false:=by simpa using htf
   have HT2:=ab htf;rw [Du htf] at hsl;clear htf;go_wp2_with (go_at_call 46;refine(jW B _ (ac++escL th2 f) 45 _ (hbl2) fS fS fU fU).mono ?_)
   first|rintro e w3 rfl hbl3 hfr3|rintro e w3 ⟨rfl,hbl3,hfr3⟩
   have hbx3:=hfr3.held HBX2.out fU (Nat.ne_of_gt hgl);have y2:w3.cell? ⟨wr.heap.size,1,none⟩=some (.string ⟨(t).toArray⟩):=by rw [DB hbx3];rfl
   have hB3:B≤w3.heap.size:=Dz hB2 hfr3.size;have HFR3:=ab (HFR2.out.trans hfr3);clear hbx3 hfr3;go_wp2_with (first|(go_at_call 47;refine(qn _ _ _ N2.out fR).mono ?_;rintro e w4 ⟨rfl,rfl⟩;rw [show [94,45,92,91,93,47]=th2 from rfl])|(go_at_call 35;refine(jU B _ (ac++escL th2 f++[45]) _ _ (hbl3) fS fS fS).mono ?_))
   first|rintro e w4 rfl hbl4 hfr4|rintro e w4 ⟨rfl,hbl4,hfr4⟩
   go_wp2_with fail
   go_roundw
   case rel=>exact⟨k+1,ac++escL th2 f++[45]++escL th2 t,by omega,by go_num,hbl4,HFR3.out.trans hfr4,by simp only [DE,Dx,DP];omega,ab (by rw [Hr.out,←HE.out];simp [rowS,HT2.out])⟩
   case measure=>simp [intOf];omega):p:=h
theorem ar {p:Prop} (h:p:=by
 have HF2:Hid (kp n (rows++[(c,c)]) r1=R0):=ab (by rw [←HF.out];simp only [kp,ht,hit,ht2];simp);have hne:=(uA ht2 fX).1;obtain⟨u,hu⟩:∃u,hdS r1=u:=⟨_,rfl⟩;rw [hu] at hne;have HU:=ab hu;clear HF ht hit hrd hok ht2 hu;go_wp2_with (go_at_call 125;refine(j6 _ HRD.out HT.out fX).mono ?_)
 rintro e w3 ⟨rfl,hrd3,hq3⟩;have hgr3:=jy hg hq3;have hown3:=ke HOWN.out hq3 fR;have HRD3:=ab hrd3;clear hrd3 hq3;go_wp2_with (go_at_call 142;refine(ls _ HRD3.out).mono ?_)
 rintro e w4 hq;have hq4:=hq.1;have hqe:=hq.2;rw [HIT.out] at hqe;obtain⟨hrd4,hqe⟩:=hqe;rcases hqe with⟨_,rfl⟩|⟨q,_⟩
 case inr=>exact absurd rfl q
 have hgr4:=jy hgr3 hq4;have hown4:=ke hown3 hq4 fR;have hlt4:=hown4.lt;obtain⟨va,vc,rfl⟩:=jX hown4;have hz4:=hgr4.size;obtain⟨w5,hw5⟩:∃w5,w5=w4.alloc (.cells #[.string ⟨(c).toArray⟩,.string ⟨(c).toArray⟩] 62):=⟨_,rfl⟩;obtain⟨hb5,hz5e,hbr5⟩:=kl w4 hw5;have hz5:w4.heap.size+1≤w5.heap.size:=fR;have HOWN5:=ab (jP hown4 hb5);have HRD5:=ab (hrd4.later hb5);have HBR5:=ab hbr5;have hgr5:=jy hgr4 (jz hb5 (some g));clear hq hq4 hrd4 hown3 hown4 hz5e hbr5 HRD3;obtain⟨ir,hir⟩:=info_parts me;go_upto_region 10 with fail
 rw [←hw5];clear hw5;have HSEE:Hid (∀x:ExtOf w5,Calls Tryz.prog 53 #[.pointer (some ⟨g,0,none⟩)] x.val fun e w'=>e=.returned (.string ⟨(u).toArray⟩)∧Below x.val.heap.size x.val w'):=ab fun x=>(kq _ (HRD5.out.later x.ext)).mono fun _ _ ⟨h1,h2⟩=>⟨by rw [h1,HU.out],h2.below _⟩
 refine jF fW fW ?_;repeat (go_big_quiet_step ((go_at_call 53;exact kg (HSEE.out _))))
 refine wpQuiet_nil ?_;rintro _ ⟨xq,rfl⟩;have hrowq:=(xq.ext.block _ (jA HBR5.out)).trans HBR5.out;have hownq:=jP HOWN5.out xq.ext;have hrdq:=HRD5.out.later xq.ext;have hgrq:=jy hgr5 (jz xq.ext (some g));generalize xq.val=wq at *
 clear HSEE HU hne;have hrc0:(wq).cell? ⟨w4.heap.size,0,none⟩=some (.string ⟨(c).toArray⟩):=by rw [DB hrowq];rfl
 have hrc1:(wq).cell? ⟨w4.heap.size,1,none⟩=some (.string ⟨(c).toArray⟩):=by rw [DB hrowq];rfl
 have hbn:Below (wq).heap.size (wq) ((wq).alloc (.cells #[.string ⟨(c).toArray⟩,.string ⟨(c).toArray⟩] 62)):=(Below.refl _ _).alloc (Dv _) _;have HO6:=ab (jP hownq hbn);have hsl6:Sl ((wq).alloc (.cells #[.string ⟨(c).toArray⟩,.string ⟨(c).toArray⟩] 62)) ((wq).alloc (.cells #[.string ⟨(c).toArray⟩,.string ⟨(c).toArray⟩] 62)).heap.size (some ⟨wq.heap.size,0,none⟩) 2 1 (jN [(c,c)]):=by
  exact fb
 have HSL6:=ab hsl6;clear hsl6;have HRD6:=ab (hrdq.later hbn);have hgr6:=jy hgrq (jz hbn (some g));have hz6:=hgr6.size;clear hrowq hownq hrdq hgrq hbn;go_wp2_with (at_builtin;refine kf w2.heap.size 62 rfl _ _ 22 rfl Tryz.underlying22 hir rfl fU rfl (HO6.out) rfl (HSL6.out) (lN [(c,c)]) fR fR fU hz6 ?_)
 intro v7 w7 hown7 hq7 hb7 _;have hown8:w7.ownsRow w2.heap.size 62 2 v7 (rows++[(c,c)]).length (jN (rows++[(c,c)])):=by
  exact fC
 have hrd7:=HRD6.out.grownHi hq7 (fun k hk=>by have:=(hlt4 k hk).1;omega);have hgr7:w2.grownBy w7 (some g):=mO hgr6 hb7 fR;have hrl7:=qQ (nm:=[(c,c)]) HRL.out fY;clear hown7 hq7 hb7;go_wp2
 go_roundg n
 case measure=>omega
 case rel=>exact⟨rows++[(c,c)],r1,hown8,hrd7,hgr7,by simp at *;omega,by simp at *;omega,hrl7,HF2⟩):p:=h
theorem au {p:Prop} (h:p:=by
 obtain⟨css,hca,hva⟩:=HOA1.out;obtain⟨csst,hct,hvt⟩:=HOT1.out;obtain⟨ta,tc,rfl⟩:=jX hct;obtain⟨aa,ac,rfl⟩:=jX hca;have HSEQ:=ab (Cp w1 ⟨csst,hct,hvt⟩ fR HSM.out.2);have HCA:=ab hca;have HVA:=ab hva;have hlta:=hca.lt;clear hca hva hct hvt;go_wp2_with (go_at_call 77;refine HSEQ.out.mono ?_)
 rintro e w5 hq5;obtain⟨cc5,rfl,hx5,hb5⟩:=hq5;obtain⟨yk,yc,yn,yr,yl,yh,yz,ys,za,zc,zka,zkc,hy,rfl⟩:=hx5.box;rw [hy] at hx5;have hbn:=(Below.refl w5.heap.size w5).alloc (Dv _) (.cells (rxc yk yc yn za yr.length zc yl yh yz zka ys.length zkc).toArray 25);have ho6:=jP (jP HCA.out hb5) hbn;have hsl6:=Sl.lit (n:=1) (sz:=8) (heap_alloc_new w5 (.cells (rxc yk yc yn za yr.length zc yl yh yz zka ys.length zkc).toArray 25)) rfl;have hrv6:=(HVA.out.later hb5).later hbn;have hcv6:=hx5.later hbn;have hone:=hx5.one;have hz5:=hb5.size;unfold rxc at ho6 hsl6 hrv6 hcv6 hone hbn;have HO6:=ab ho6;have HSL6:=ab hsl6;have HRV6:=ab hrv6;have HCV6:=ab hcv6;have HONE:=ab hone;have HY:=ab hy;clear ho6 hsl6 hrv6 hcv6 hone hx5 hy HSEQ HCA HVA;unfold rxc;have hlen6:=Rx.len_parts alts;go_wp2_with (at_builtin;refine kf w0.heap.size 25 rfl _ _ 23 rfl Tryz.underlying23 hix rfl fU rfl HO6.out rfl HSL6.out HONE.out fR fR fU fY ?_)
 intro v7 w7 ho7 hq7 hb7 hmv;have hox7:OwnX w7 w0.heap.size v7 (alts++[seqR terms]):=by
  exact fg
 obtain⟨s1,s2,s3⟩:=qw HSM.out.2 fR;have hpa:Rx.partsL (alts++[seqR terms])≤1000000:=by rw [lA];simp only [Rx.partsL];omega
 have hsa:Rx.smallL (alts++[seqR terms]):=lK HSM.out.1 ⟨s1,trivial⟩;obtain⟨a7,n7,c7,hv7⟩:=hox7.form;subst hv7;have HALT:=ab (Alt_res w7 hox7 hpa hsa);have hg05:=jy hgw1 (jz hb5 (some g));have hg06:=jy hg05 (jz hbn (some g));have hg07:=mO hg06 hb7 (Dv _);have hrd7:=((HRD1.out.later hb5).later hbn).grownHi hq7 (fun k hk=>by have:=(hlta k hk).1;omega);have HRD7:=ab hrd7;clear hox7 s1 s2 s3 hpa hsa hq7 hmv ho7 hb7 hrd7 hg05 hg06;go_wp2_with (go_at_call 76;refine HALT.out.mono ?_)
 rintro e w8 hq8;obtain⟨cc8,rfl,hx8,hb8⟩:=hq8;have hg08:=jy hg07 (jz hb8 (some g));have hg8:=jy hgg hg08;have HRD8:=ab (HRD7.out.later hb8);have hz07:=hg07.size;obtain⟨xk,xc,xn,xr,xl,xh,xz,xs,xa,xrc,xka,xkc,hy8,rfl⟩:=hx8.box;have HR2:Hid (Except.ok (Rx.mk xk xc xn xr xl xh xz xs,_)=R):=ab (hy8▸HF2.out);have HR:=HR2;rw [hy8] at hx8;have HXV:=ab (hx8.mono (S':=fun b=>w.heap.size≤b∧b≠w.heap.size) fun b hb hlt=>by constructor<;>omega);obtain⟨f0,f1,f2,f3,f4,f5,f6,f7,f8⟩:=jD (c:=[]) (jB HBY0.out hg08 fR);clear hx8 hy8 HALT hg07 HRD7;unfold rxc at HXV ⊢;go_wp2
 refine DX (v:=.tuple #[.agg #[.int .i64 xk,.string ⟨(xc).toArray⟩,.bool xn,.slice xa xr.length xrc,.int .i64 xl,.int .i64 xh,.bool xz,.slice xka xs.length xkc],.int .i64 0]) iO rfl ?_;refine⟨?_,?_⟩
 ·iterate 8 (refine jJ ?_ fS _)
  exact hg8
 rw [←HR.out];refine⟨rxc xk xc xn xa xr.length xrc xl xh xz xka xs.length xkc,rfl,RxV.mono (S:=fun b=>w.heap.size≤b∧b≠w.heap.size) (fun b hb _=>hb.1) ?_,?_⟩
 ·iterate 8 (refine RxV.keep (Kept.setLow _ (fun b hb=>by have:w.heap.size≤b∧b≠w.heap.size:=hb;first|omega|(simp;done)|(simp;omega))) ?_)
  exact HXV.out
 ·iterate 8 (refine RdT.setHi ?_ fS _)
  exact HRD8.out):p:=h
theorem av {p:Prop} (h:p:=by
 have HF2:Hid (none=R0):=ab (by rw [←HF.out];simp only [kp,ht,hit,ht2];simp [jQ,mh]);have HR2:Hid (Except.error 10=R):=ab io;clear HR;have HR:=HR2;clear HF ht hit hrd hok ht2;go_wp2_with (go_at_call 125;refine(j6 _ HRD.out HT.out fX).mono ?_)
 rintro e w3 ⟨rfl,hrd3,hq3⟩;have hgr3:=jy hg hq3;have hown3:=ke HOWN.out hq3 fR;have HRD3:=ab hrd3;clear hrd3 hq3;go_wp2_with (go_at_call 142;refine(ls _ HRD3.out).mono ?_)
 rintro e w4 hq;have hq4:=hq.1;have hqe:=hq.2;rw [HIT.out] at hqe;obtain⟨hrd4,hqe⟩:=hqe;rcases hqe with⟨_,rfl⟩|⟨q,_⟩
 case inr=>exact absurd rfl q
 have hgr4:=jy hgr3 hq4;have hown4:=ke hown3 hq4 fR;have hlt4:=hown4.lt;obtain⟨va,vc,rfl⟩:=jX hown4;have hz4:=hgr4.size;obtain⟨w5,hw5⟩:∃w5,w5=w4.alloc (.cells #[.string ⟨(c).toArray⟩,.string ⟨(c).toArray⟩] 62):=⟨_,rfl⟩;obtain⟨hb5,hz5e,hbr5⟩:=kl w4 hw5;have hz5:w4.heap.size+1≤w5.heap.size:=fR;have HOWN5:=ab (jP hown4 hb5);have HRD5:=ab (hrd4.later hb5);have HBR5:=ab hbr5;have hgr5:=jy hgr4 (jz hb5 (some g));clear hq hq4 hrd4 hown3 hown4 hz5e hbr5 HRD3;obtain⟨ir,hir⟩:=info_parts me;go_upto_region 10 with fail
 rw [←hw5];clear hw5;obtain⟨la,lk,li,ln,l0,l1,l2,l3⟩:=HRD5.out.look0;have HSEE:Hid (∀x:ExtOf w5,Calls Tryz.prog 53 #[.pointer (some ⟨g,0,none⟩)] x.val fun e w'=>e=.returned (.string ⟨(([45]:Str)).toArray⟩)∧Below x.val.heap.size x.val w'):=ab fun x=>(kq _ (HRD5.out.later x.ext)).mono fun _ _ ⟨h1,h2⟩=>⟨by rw [h1];rfl,h2.below _⟩
 have d0:∀x:ExtOf w5,x.val.cell? ⟨g,0,none⟩=some (.slice la ln lk):=ExtOf.cell l0;have d1:∀x:ExtOf w5,x.val.cell? ⟨g,1,none⟩=some (.int .i64 li):=ExtOf.cell l1;have gg:decide (ln≤li+1)=true:=by simp;omega
 have gg2:decide ((ln:Int)≤(li:Int)+1)=true:=by simp;omega
 have gw:IntKind.i64.wrap ((li:Int)+1)=(li:Int)+1:=IntWalk.i64_in _ fR;clear l0 l1;refine jF fW fW ?_;repeat (go_big_quiet_step ((go_at_call 53;exact kg (HSEE.out _))))
 refine wpQuiet_nil ?_;rintro _ ⟨xq,rfl⟩;have hbyq:=(xq.ext.block _ (jA (jB HBY2.out hgr5 fR))).trans (jB HBY2.out hgr5 fR);have hrdq:=HRD5.out.later xq.ext;have hgrq:=jy hgr5 (jz xq.ext (some g));generalize xq.val=wq at *
 clear HSEE gg gg2 gw;obtain⟨i,hi9,c1,hf,hr6⟩:=hrdq.step;have HRD6:=ab hr6;have hgr6:=jR hgrq 1 (.int .i64 ((i:Int)+1));have hbyq2:=jZ hbyq (a:=⟨g,1,none⟩) fS (.int .i64 ((i:Int)+1));clear hrdq hr6 hbyq;go_wp2_with (go_at_call 142;refine(ls _ HRD6.out).mono ?_)
 rintro e w7 hq;have hq7:=hq.1;obtain⟨hqe',r9,hrd9⟩:e=.returned (.tuple #[.string ⟨#[]⟩,.slice none 0 0,.int .i64 10])∧∃r,Rd w7 g r d:=hq.2;subst hqe';have HRD9:=ab hrd9;clear hrd9;have hgr7:=jy hgr6 hq7;have hgw7:=jy hg2 hgr7;obtain⟨f0,f1,f2,f3,f4,f5,f6,f7,f8⟩:=jD (c:=[]) (jB hbyq2 hq7 fR);clear hq hq7 hbyq2;go_wp2
 refine DX (v:=.tuple #[.agg #[.int .i64 0,.string ⟨([]).toArray⟩,.bool false,.slice none 0 0,.int .i64 0,.int .i64 0,.bool false,.slice none 0 0],.int .i64 10]) gl rfl ?_;refine⟨?_,?_⟩
 ·iterate 8 (refine jJ ?_ fS _)
  exact hgw7
 ·rw [←HR.out]
  exact eL):p:=h
theorem aw {p:Prop} (h:p:=by
 cases small with
 | false =>
  go_wp2_with (first|(go_at_call 109;refine(qe _ _ fR fR).mono ?_;rintro e w1 ⟨rfl,rfl⟩)|(go_at_call 87;refine(pE _ _ fR fR).mono ?_;rintro e w1 ⟨rfl,rfl⟩)|(go_at_call 46;refine(jW w.heap.size _ acc _ _ hbl fR hB fR (by have:=po (upB c);simp;omega)).mono ?_))
  rintro e w2 ⟨rfl,hbl2,hfr2⟩;simp only [Int.toNat_natCast,UInt8.ofNat_toNat] at hbl2;clear hw;have hB3:=hbl2.lt;go_wp2_with fail
  go_roundw
  case rel =>
   refine⟨i+1,acc++[upB c],true,by omega,by go_num,hbl2,hb.trans (hfr2.below hB fX),?_,ab ⟨fun h=>by omega,fun _ x hx=>?_⟩,?_⟩
   ·exact fJ
   ·exact eR
   ·refine ab ?_
    rw [Hr.out,←HF'.out];conv=>rhs;unfold na;rw [Dr HW.out,Du fX,Du fX]
  case measure=>simp [intOf];omega
 | true =>
  by_cases hacc0:acc=[]
  ·subst hacc0
   go_wp2_with (first|(go_at_call 109;refine(qe _ _ fR fR).mono ?_;rintro e w1 ⟨rfl,rfl⟩)|(go_at_call 110;refine(Cg _ _ _ _ hbl).mono ?_;rintro e w1 ⟨rfl,rfl⟩)|(go_at_call 88;refine(uR _ _ fR fR).mono ?_;rintro e w1 ⟨rfl,rfl⟩)|(go_at_call 46;refine(jW w.heap.size _ [] _ _ hbl fX hB fR (by have:=po (lowB c);simp;omega)).mono ?_))
   rintro e w2 ⟨rfl,hbl2,hfr2⟩;simp only [Int.toNat_natCast,UInt8.ofNat_toNat] at hbl2;clear hw;have hB3:=hbl2.lt;go_wp2_with fail
   go_roundw
   case rel =>
    refine⟨i+1,[]++[lowB c],true,by omega,by go_num,hbl2,hb.trans (hfr2.below hB fX),?_,ab ⟨fun h=>by omega,fun _ x hx=>?_⟩,?_⟩
    ·exact fJ
    ·exact eR
    ·refine ab ?_
     rw [Hr.out,←HF'.out];conv=>rhs;unfold na;rw [Dr HW.out,Du fX,Dr ⟨rfl,rfl⟩]
   case measure=>simp [intOf];omega
  ·have hl0:((acc.length:Int)==0)=false:=by
    rw [DV];intro h;exact hacc0 (Ds fR)
   have HA:=ab hacc0;clear hacc0;go_wp2_with (first|(go_at_call 109;refine(qe _ _ fR fR).mono ?_;rintro e w1 ⟨rfl,rfl⟩)|(go_at_call 110;refine(Cg _ _ _ _ hbl).mono ?_;rintro e w1 ⟨rfl,rfl⟩)|(go_at_call 87;refine(pE _ _ fR fR).mono ?_;rintro e w1 ⟨rfl,rfl⟩)|(go_at_call 46;refine(jW w.heap.size _ acc _ _ hbl fR hB fR (by have:=po (upB c);simp;omega)).mono ?_))
   rintro e w2 ⟨rfl,hbl2,hfr2⟩;simp only [Int.toNat_natCast,UInt8.ofNat_toNat] at hbl2;clear hw;have hB3:=hbl2.lt;go_wp2_with fail
   go_roundw
   case rel =>
    refine⟨i+1,acc++[upB c],true,by omega,by go_num,hbl2,hb.trans (hfr2.below hB fX),?_,ab ⟨fun h=>by omega,fun _ x hx=>?_⟩,?_⟩
    ·exact fJ
    ·exact eR
    ·refine ab ?_
     rw [Hr.out,←HF'.out];conv=>rhs;unfold na;rw [Dr HW.out,Du fX,Du (fun h=>HA.out h.2)]
   case measure=>simp [intOf];omega):p:=h
theorem ax {p:Prop} (h:p:=by
 obtain⟨x,r3⟩:=y;rw [hpr] at hq;obtain⟨hq5,cc,rfl,hxv,hrd5⟩:=hq;have hby5:=jB HBY2.out hq5 fR;have hbl5:Below w.heap.size w w5:=yP hbw2 hq5 fR;have hz5:=hbl5.size;have hq5z:=hq5.size;obtain⟨k,c,ng,rs,lo,hi,lz,ks,ra,rc,ka,kc,hx,rfl⟩:=hxv.box;have hb6:Below w5.heap.size w5 (w5.alloc (.cells (rxc k c ng ra rs.length rc lo hi lz ka ks.length kc).toArray 25)):=(Below.refl _ _).alloc (Dv _) _;have hbl6:=hbl5.trans (hb6.mono hz5);have HRD6:=ab (hrd5.later hb6);have HXV:=ab ((hxv.mono (S':=fun b=>w.heap.size≤b∧b≠w.heap.size) fun b hb hlt=>by constructor<;>omega).later hb6);have HBY6:=ab ((hb6.block _ (jA hby5)).trans hby5);have HBX6:Hid ((w5.alloc (.cells (rxc k c ng ra rs.length rc lo hi lz ka ks.length kc).toArray 25)).heap[w5.heap.size]?=some (.cells (rxc k c ng ra rs.length rc lo hi lz ka ks.length kc).toArray 25 (0,0))):=ab (heap_alloc_new w5 _);clear hxv hrd5 hby5 hb6;unfold rxc at hbl6 HRD6 HXV HBY6 HBX6 ⊢;cases r3 with
 | nil =>
  have HR2:Hid (Except.ok x=R):=ab iC;have HR:=HR2;rw [hx] at HR HXV;clear hpr hx HR2;go_wp2_with (go_at_call 53;refine(kq _ HRD6.out).mono ?_)
  rintro e w7 ⟨rfl,hst⟩;have e0:hdS []=[]:=rfl;rw [e0];have hb7:=hst.below w.heap.size;have hbl7:=hbl6.trans hb7;have HXV7:=ab (HXV.out.later (hst.below _));obtain⟨f0,f1,f2,f3,f4,f5,f6,f7,f8⟩:=jD (c:=[]) (((hst.below _).block _ (jA HBY6.out)).trans HBY6.out);obtain⟨e0,e1,e2,e3,e4,e5,e6,e7,e8⟩:=jD (((hst.below _).block _ (jA HBX6.out)).trans HBX6.out);clear hst hb7;go_wp2
  refine DX (v:=.tuple #[.agg #[.int .i64 k,.string ⟨(c).toArray⟩,.bool ng,.slice ra rs.length rc,.int .i64 lo,.int .i64 hi,.bool lz,.slice ka ks.length kc],.int .i64 0]) gJ rfl ?_;refine⟨?_,?_⟩
  ·exact fL
  rw [←HR.out];refine⟨rxc k c ng ra rs.length rc lo hi lz ka ks.length kc,rfl,RxV.mono (S:=fun b=>w.heap.size≤b∧b≠w.heap.size) (fun b hb _=>hb.1) ?_⟩;iterate 8 (refine RxV.keep (Kept.setLow _ (fun b hb=>by have:w.heap.size≤b∧b≠w.heap.size:=hb;first|omega|(simp;done)|(simp;omega))) ?_)
  exact HXV7.out
 | cons p r4 =>
  have HR2:Hid (Except.error 10=R):=ab iC;have HR:=HR2;have hp0:=HRD6.out.pos.1;have hp1:List.isEmpty p=false:=by cases p<;>simp at hp0 ⊢
  have hp2:(!List.isEmpty p)=true:=by rw [hp1];rfl
  clear hpr hx HR2 hp0;go_wp2_with (go_at_call 53;refine(kq _ HRD6.out).mono ?_)
  rintro e w7 ⟨rfl,hst⟩;rw [kC];have hbl7:=hbl6.trans (hst.below w.heap.size);obtain⟨f0,f1,f2,f3,f4,f5,f6,f7,f8⟩:=jD (c:=[]) (((hst.below _).block _ (jA HBY6.out)).trans HBY6.out);clear hst;go_wp2
  refine DX (v:=.tuple #[.agg #[.int .i64 0,.string ⟨([]).toArray⟩,.bool false,.slice none 0 0,.int .i64 0,.int .i64 0,.bool false,.slice none 0 0],.int .i64 10]) gJ rfl ?_;refine⟨?_,?_⟩
  ·exact fL
  ·rw [←HR.out];rfl):p:=h
theorem ay {p:Prop} (h:p:=by
 go_wp2_with (go_at_call 35;refine(jU w.heap.size _ acc _ _ gU fR gY jf).mono ?_;rintro e w2 ⟨rfl,hbl2,hfr2⟩)
 go_roundw
 case rel =>
  refine⟨k+1,acc++els,by omega,by go_num,hbl2,?_,ab ?_,ab ?_⟩
  ·exact eX
  ·exact eN
  ·exact eZ
 case measure=>simp [intOf];omega):p:=h
theorem aA {p:Prop} (h:p:=by
 have hb6:Below w2.heap.size w2 (w2.alloc (.cells #[.int .i64 0,.string ⟨#[]⟩,.bool false,.slice none 0 0,.int .i64 0,.int .i64 0,.bool false,.slice none 0 0] 25)):=(Below.refl _ _).alloc (Dv _) _;have HRD6:=ab (hrd9.later hb6);have hg6:=jy hg2 (jz hb6 (some g));have ne1:(q != 0)=true:=by simp [bne,hq0]
 obtain⟨f0,f1,f2,f3,f4,f5,f6,f7,f8⟩:=jD (c:=[]) ((hb6.block _ (jA hby2)).trans hby2);clear hat hby2 hrd9 hb6 hq2;unfold rxv0;go_wp2
 refine DX (v:=.tuple #[.agg #[.int .i64 0,.string ⟨([]).toArray⟩,.bool false,.slice none 0 0,.int .i64 0,.int .i64 0,.bool false,.slice none 0 0],.int .i64 q]) gp rfl ?_;refine⟨?_,?_⟩
 ·iterate 8 (refine jJ ?_ fS _)
  exact hg6
 ·rw [←HR.out]
  exact fB):p:=h
theorem aB {p:Prop} (h:p:=by
 refine DX (v:=.tuple #[tfv0,.int .i64 0,.bool false]) (by simp [results,Tryz.results12,go_sem,tfv0,z0,z1,z2,z3,z4,z5,z6,z7,z8,z9,z10]) rfl ⟨?_,by rw [HE.out];try rfl⟩
 (repeat (first|with_reducible exact Below.refl _ _|with_reducible assumption|(refine Below.setCell ?_ gj _)|(refine Below.alloc ?_ fZ _)|(refine Below.drew ?_)))):p:=h
theorem aC {p:Prop} (h:p:=by
 obtain⟨x,r3⟩:=y;rw [hres] at hq;obtain⟨hq8,cc,rfl,hxv,hrd9⟩:=hq;have HR2:Hid (Except.ok (x,r3)=R):=ab jx;have HR:=HR2;have hg8:=jy hg1 hq8;have HRD9:=ab hrd9;obtain⟨k,c,ng,rs,lo,hi,lz,ks⟩:=x;have hxv0:=hxv;obtain⟨ra,rc,ka,kc,rfl,hrs,hks⟩:=hxv.open_;have HXV:=ab (hxv0.mono (S':=fun b=>w.heap.size≤b∧b≠w.heap.size) fun b hb hlt=>by have:=hz1;constructor<;>omega);obtain⟨f0,f1,f2,f3,f4,f5,f6,f7,f8⟩:=jD (c:=[]) (jB HBY1.out hq8 fR);clear hres hq8 hrd9 hxv hxv0 hrs hks;unfold rxc at HXV ⊢;go_wp2
 refine DX (v:=.tuple #[.agg #[.int .i64 k,.string ⟨(c).toArray⟩,.bool ng,.slice ra rs.length rc,.int .i64 lo,.int .i64 hi,.bool lz,.slice ka ks.length kc],.int .i64 0]) gz rfl ?_;refine⟨?_,?_⟩
 ·iterate 8 (refine jJ ?_ fS _)
  exact hg8
 rw [←HR.out];refine⟨rxc k c ng ra rs.length rc lo hi lz ka ks.length kc,rfl,RxV.mono (S:=fun b=>w.heap.size≤b∧b≠w.heap.size) (fun b hb _=>hb.1) ?_,?_⟩
 ·iterate 8 (refine RxV.keep (Kept.setLow _ (fun b hb=>by have:w.heap.size≤b∧b≠w.heap.size:=hb;first|omega|(simp;done)|(simp;omega))) ?_)
  exact HXV.out
 ·iterate 8 (refine RdT.setHi ?_ fS _)
  exact HRD9.out):p:=h
theorem aE {p:Prop} (h:p:=by
 have HE':Hid (R=some (⟨4,n,0,[],t⟩,r2)):=ab jn;clear hU HE;go_enter Tryz.func81,Tryz.ntmps81
 go_wp2_with (first|(go_at_call 80;refine(lw _ _ _ _ fR fR fX).mono ?_;rintro e w1 ⟨rfl,rfl⟩)|(go_at_call 103;refine(oT _ fR fR fR fR HU.out).mono ?_;rintro e w1 ⟨hb1,hlt,j,hj1,hj2,hj3,rfl⟩;obtain⟨hc1,hf1⟩:=qh hb1;have z0:w1.cell? ⟨w.heap.size,0,none⟩=some (.int .i64 0):= fT;have z1:w1.cell? ⟨w.heap.size,1,none⟩=some (.int .i64 0):= fT;have z2:w1.cell? ⟨w.heap.size,2,none⟩=some (.int .i64 0):= fT;have z3:w1.cell? ⟨w.heap.size,3,none⟩=some (.string ⟨#[]⟩):= fT;have z4:w1.cell? ⟨w.heap.size,4,none⟩=some (.string ⟨#[]⟩):= fT;have y0:w1.cell? ⟨w.heap.size+1,0,none⟩=some (.int .i64 4):= fT;have y1:w1.cell? ⟨w.heap.size+1,1,none⟩=some (.int .i64 ↑n):= fT;have y2:w1.cell? ⟨w.heap.size+1,2,none⟩=some (.int .i64 0):= fT;have y3:w1.cell? ⟨w.heap.size+1,3,none⟩=some (.string ⟨#[]⟩):= fT;have y4:w1.cell? ⟨w.heap.size+1,4,none⟩=some (.string ⟨#[]⟩):= fT;have hbw:Below w.heap.size w w1:=((((Below.refl w.heap.size w).alloc (Dv _) _).alloc fX _).trans (hb1.mono fY));have HJ3:=ab hj3;clear hj3))
 refine DX (v:=.tuple #[.agg #[.int .i64 4,.int .i64 n,.int .i64 0,.string ⟨([]).toArray⟩,.string ⟨(t).toArray⟩],.int .i64 (j+1),.bool true]) gF rfl ⟨?_,?_⟩
 ·(repeat (first|with_reducible exact Below.refl _ _|with_reducible assumption|(refine Below.setCell ?_ gj _)|(refine Below.alloc ?_ fZ _)|(refine Below.drew ?_)))
 ·rw [HE'.out]
  exact fD):p:=h
theorem aF {p:Prop} (h:p:=by
 have HE':Hid (R=none):=ab jn;clear hU HE;go_enter Tryz.func81,Tryz.ntmps81
 go_wp2_with (first|(go_at_call 80;refine(lw _ _ _ _ fR fR fX).mono ?_;rintro e w1 ⟨rfl,rfl⟩)|(go_at_call 103;refine(nE _ fR fR fR fR HU.out).mono ?_;rintro e w1 ⟨hb1,rfl⟩;obtain⟨hc1,hf1⟩:=qh hb1;have z0:w1.cell? ⟨w.heap.size,0,none⟩=some (.int .i64 0):= fT;have z1:w1.cell? ⟨w.heap.size,1,none⟩=some (.int .i64 0):= fT;have z2:w1.cell? ⟨w.heap.size,2,none⟩=some (.int .i64 0):= fT;have z3:w1.cell? ⟨w.heap.size,3,none⟩=some (.string ⟨#[]⟩):= fT;have z4:w1.cell? ⟨w.heap.size,4,none⟩=some (.string ⟨#[]⟩):= fT;have y0:w1.cell? ⟨w.heap.size+1,0,none⟩=some (.int .i64 4):= fT;have y1:w1.cell? ⟨w.heap.size+1,1,none⟩=some (.int .i64 ↑n):= fT;have y2:w1.cell? ⟨w.heap.size+1,2,none⟩=some (.int .i64 0):= fT;have y3:w1.cell? ⟨w.heap.size+1,3,none⟩=some (.string ⟨#[]⟩):= fT;have y4:w1.cell? ⟨w.heap.size+1,4,none⟩=some (.string ⟨#[]⟩):= fT;have hbw:Below w.heap.size w w1:=((((Below.refl w.heap.size w).alloc (Dv _) _).alloc fX _).trans (hb1.mono fY))))
 refine DX (v:=.tuple #[.agg #[.int .i64 0,.int .i64 0,.int .i64 0,.string ⟨#[]⟩,.string ⟨#[]⟩],.int .i64 0,.bool false]) gF rfl ⟨?_,by rw [HE'.out];rfl⟩
 (repeat (first|with_reducible exact Below.refl _ _|with_reducible assumption|(refine Below.setCell ?_ gj _)|(refine Below.alloc ?_ fZ _)|(refine Below.drew ?_)))):p:=h
theorem aG {p:Prop} (h:p:=by
 first|rintro e w2 rfl hb2|rintro e w2 ⟨rfl,hb2⟩
 have HX2:=ab ((hb2.block _ (jA HX1.out)).trans HX1.out);have z8:=jC (HFCE.out▸HX2.out) 8 rfl;have hbw2:=bel2 (bel2 hb0 hb1) hb2;have HFS2:=ab (Show_any fa fcp 10000 fs w2 (HFS.out.keep (Kept.all ((hb1.trans (hb2.mono hb1.size))))).sl ((HT0.out.keep hb1).keep hb2) HG.out fR HFN.out HMF.out);go_wp2_with (go_at_call 17;refine HFS2.out.mono ?_)
 first|rintro e w3 rfl hb3|rintro e w3 ⟨rfl,hb3⟩
 have HX3:=ab ((hb3.block _ (jA HX2.out)).trans HX2.out);have z10:=jC (HFCE.out▸HX3.out) 10 rfl;have z9:=jC (HFCE.out▸HX3.out) 9 rfl;have hbw3:=bel2 hbw2 hb3;clear z8;go_wp2
 go_ret2
 exact⟨by rw [HFO.out];simp,hbw3⟩):p:=h
theorem aI {p:Prop} (h:p:=by
 by_cases hk0:0<k
 ·by_cases hn:n≤255
  ·have HF3:Hid (some (n,r)=R):=ab (by rw [←HF2.out,Dr ⟨hk0,hn⟩])
   have hnb:decide ((n:Int)≤255)=true:=by simp;omega
   clear HF2;go_wp2
   go_ret2
   exact⟨hg,by rw [←HF3.out];exact⟨rfl,hn,HRD.out⟩⟩
  ·have HF3:Hid (none=R):=ab (by rw [←HF2.out,Du (fun q=>hn q.2)])
   have hnb:decide ((n:Int)≤255)=false:=by simp;omega
   exact fM
 ·have HF3:Hid (none=R):=ab (by rw [←HF2.out,Du (fun q=>hk0 q.1)])
  exact fM):p:=h
theorem aJ {p:Prop} (h:p:=by
 have HB:=ab hbv;have HR:Hid (R=false):=ab ic;clear hbv;go_enter Tryz.func68,Tryz.ntmps68
 go_wp2_with (go_at_call 92;refine(lR _ HB.out).mono ?_;rintro e w1 ⟨rfl,hb1,hc1⟩;have hq7:=hc1 ⟨w.heap.size,7,none⟩ (.slice ka (ks.length) kc) fX)
 go_ret
 exact⟨jG HR.out.symm,((Below.refl _ _).alloc (Dv _) _).trans (hb1.mono fX)⟩):p:=h
theorem aK {p:Prop} (h:p:=by
 go_wp2_with (go_at_call 35;refine(jU w.heap.size _ acc _ _ gU fR gY jf).mono ?_;rintro e w2 ⟨rfl,hbl2,hfr2⟩)
 go_roundw
 case rel =>
  refine⟨k+1,acc++thn,by omega,by go_num,hbl2,?_,ab ?_,ab ?_⟩
  ·exact eX
  ·exact eN
  ·exact eZ
 case measure=>simp [intOf];omega):p:=h
theorem aM {p:Prop} (h:p:=by
 refine DX (v:=.tuple #[.agg #[.int .i64 0,.int .i64 0,.int .i64 0,.string ⟨#[]⟩,.string ⟨#[]⟩],.int .i64 0,.bool false]) iX rfl ⟨?_,by rw [HE.out];rfl⟩
 (repeat (first|with_reducible exact Below.refl _ _|with_reducible assumption|(refine Below.setCell ?_ gj _)|(refine Below.alloc ?_ fZ _)|(refine Below.drew ?_)))):p:=h
theorem aN {p:Prop} (h:p:=by
 have HF2:Hid (kp n (rows++nm) r1=R0):=ab (by rw [←HF.out];simp only [kp,ht,hit];rw [Dr hnm]);have HNM:=ab hnm;clear HF ht hit hrd hok hnm;go_wp2_with (go_at_call 125;refine(j6 _ HRD.out HT.out fX).mono ?_)
 rintro e w3 ⟨rfl,hrd3,hq3⟩;have hgr3:=jy hg hq3;have hown3:=ke HOWN.out hq3 fR;have HRD3:=ab hrd3;clear hrd3 hq3;go_wp2_with (go_at_call 142;refine(ls _ HRD3.out).mono ?_)
 rintro e w4 hq;have hq4:=hq.1;have hqe:=hq.2;rw [HIT.out] at hqe;obtain⟨hrd4,hqe⟩:=hqe;rcases hqe with⟨q,_⟩|⟨_,a,k,rfl,hsl⟩
 ·exact absurd q HNM.out
 have hgr4:=jy hgr3 hq4;have hown4:=ke hown3 hq4 fR;have hlt4:=hown4.lt;obtain⟨va,vc,rfl⟩:=jX hown4;have HOWN4:=ab hown4;have HSL:=ab hsl.sl;have HRD4:=ab hrd4;clear hq hq4 hsl hrd4 hown3 hown4;obtain⟨ir,hir⟩:=info_parts me;have hz4:=hgr4.size;go_wp2_with (at_builtin;refine kf w2.heap.size 62 rfl _ _ 22 rfl Tryz.underlying22 hir rfl fU rfl (HOWN4.out) rfl (HSL.out) (lN nm) fR fR fU hz4 ?_)
 intro v5 w5 hown5 hq5 hb5 _;have hown6:w5.ownsRow w2.heap.size 62 2 v5 (rows++nm).length (jN (rows++nm)):=by
  rw [DE,show jN (rows++nm)=jN rows++jN nm from by simp [jN]];exact hown5
 have hrd5:=HRD4.out.grownHi hq5 (fun k hk=>by have:=(hlt4 k hk).1;omega);have hgr5:w2.grownBy w5 (some g):=mO hgr4 hb5 fR;have hrl5:=qQ HRL.out HI4.out;clear hown5 hq5 hb5;go_wp2
 go_roundg n
 case measure=>omega
 case rel=>exact⟨rows++nm,r1,hown6,hrd5,hgr5,by rw [DE];omega,by omega,hrl5,HF2⟩):p:=h
theorem aO {p:Prop} (h:p:=by
 have HE6:Hid (R=some (⟨.mk k ch ng rs lo hii lz ks,fs,true,true⟩,r6)):=ab jq;clear HE5 hfl;go_wp2_with (go_at_call 28;refine(kB _ HIX.out).mono ?_;rintro e w4 ⟨rfl,rfl⟩)
 refine DX (v:=.tuple #[.agg #[.int .i64 k,.string ⟨(ch).toArray⟩,.bool ng,.slice ra rs.length rc,.int .i64 lo,.int .i64 hii,.bool lz,.slice ka ks.length kc,.slice fa fs.length fcp,.bool true,.bool true],.int .i64 (j2+(m+1)),.bool true]) gK rfl ⟨?_,?_⟩
 ·(repeat (first|with_reducible exact Below.refl _ _|with_reducible assumption|(refine Below.setCell ?_ gj _)|(refine Below.alloc ?_ fZ _)|(refine Below.drew ?_)))
 ·rw [HE6.out]
  refine⟨_,j2+(m+1),rfl,?_,by omega,by omega,HDR.out⟩;have hT:TfV w3 (fun b=>w.heap.size<b∧b<w3.heap.size) (rxc k ch ng ra rs.length rc lo hii lz ka ks.length kc++[.slice fa fs.length fcp,.bool true,.bool true]) ⟨.mk k ch ng rs lo hii lz ks,fs,true,true⟩ :=
   ⟨_,fa,fcp,HXV3.out.mono fun b hb hlt=>by have h1:=HLT.out;have h2:wr.heap.size≤b:=hb;constructor<;>omega,HSL.out.mono fun b hb hlt=>by have h2:(w1.alloc _).heap.size≤b:=hb;simp only [D0] at h2;constructor<;>omega,rfl⟩
  exact eI):p:=h
theorem aP {p:Prop} (h:p:=by
 rw [hres] at hq;obtain⟨hq8,rfl,r9,hrd9⟩:=hq;have HR2:Hid (Except.error q=R):=ab jx;have HR:=HR2;have hg8:=jy hg1 hq8;have HRD9:=ab hrd9;obtain⟨f0,f1,f2,f3,f4,f5,f6,f7,f8⟩:=jD (c:=[]) (jB HBY1.out hq8 fR);clear hres hq8 hrd9;unfold rxv0;go_wp2
 refine DX (v:=.tuple #[.agg #[.int .i64 0,.string ⟨([]).toArray⟩,.bool false,.slice none 0 0,.int .i64 0,.int .i64 0,.bool false,.slice none 0 0],.int .i64 q]) gz rfl ?_;refine⟨?_,?_⟩
 ·iterate 8 (refine jJ ?_ fS _)
  exact hg8
 ·rw [←HR.out]
  exact eL):p:=h
theorem aQ {p:Prop} (h:p:=by
 iterate 8 (refine RxV.keep (Kept.setLow _ (fun b hb=>by have:w.heap.size≤b∧b≠w.heap.size:=hb;first|omega|(simp;done)|(simp;omega))) ?_)
 exact(RxV.close (SlS.none_ _ _ _ _) ⟨[],SlS.none_ _ _ _ _,.nil⟩)):p:=h
theorem aR {p:Prop} (h:p:=by
 have HR2:Hid (Except.error q=R):=ab (by rw [←HR.out];simp only [hpr]);have HR:=HR2;have hg5:=jy hgd hq5;have hby5:=jB HBYD.out hq5 fR;have hb6:Below w5.heap.size w5 (w5.alloc (.cells #[.int .i64 0,.string ⟨#[]⟩,.bool false,.slice none 0 0,.int .i64 0,.int .i64 0,.bool false,.slice none 0 0] 25)):=(Below.refl _ _).alloc (Dv _) _;have hrd6:=hrd9.later hb6;have c6:=hrd6.cell2;have hf6:=hrd6.free2;have HRD7:=ab (hrd6.setDeep (.int .i64 (d:Int)));have hg7:=jR (jy hg5 (jz hb6 (some g))) 2 (.int .i64 (d:Int));have ed:((d+1:Nat):Int)-1=d:=fR;have ne1:(q != 0)=true:=by simp [bne,hq0]
 obtain⟨f0,f1,f2,f3,f4,f5,f6,f7,f8⟩:=jD (c:=[]) (jZ ((hb6.block _ (jA hby5)).trans hby5) (a:=⟨g,2,none⟩) fS (.int .i64 (d:Int)));clear hpr hby5 hrd9 hrd6 hb6;unfold rxv0;go_wp2
 refine DX (v:=.tuple #[.agg #[.int .i64 0,.string ⟨([]).toArray⟩,.bool false,.slice none 0 0,.int .i64 0,.int .i64 0,.bool false,.slice none 0 0],.int .i64 q]) gN rfl ?_;refine⟨?_,?_⟩
 ·iterate 8 (refine jJ ?_ fS _)
  exact hg7
 ·rw [←HR.out]
  refine⟨rfl,?_⟩;iterate 8 (refine RdE.setHi ?_ fS _)
  exact⟨_,HRD7.out⟩):p:=h
theorem aS {p:Prop} (h:p:=by
 have HF2:Hid (none=R0):=ab (by rw [←HF.out];simp only [kp,ht,hit]);have HR2:Hid (Except.error 10=R):=ab io;have HR:=HR2;have HIT:=ab hit;clear HF ht hit hrd hown hrl hok;go_wp2_with (go_at_call 125;refine(j6 _ HRD.out HT.out fX).mono ?_)
 rintro e w3 ⟨rfl,hrd3,hq3⟩;have hgr3:=jy hg hq3;have HRD3:=ab hrd3;clear hrd3 hq3;go_wp2_with (go_at_call 142;refine(ls _ HRD3.out).mono ?_)
 rintro e w4 hq;have hq4:=hq.1;have hqe:=hq.2;rw [HIT.out] at hqe;obtain⟨hqe',r9,hrd9⟩:e=.returned (.tuple #[.string ⟨#[]⟩,.slice none 0 0,.int .i64 10])∧∃r,Rd w4 g r d:=hqe;subst hqe';have HRD9:=ab hrd9;clear hrd9;have hgr4:=jy hgr3 hq4;have hgw4:=jy hg2 hgr4;obtain⟨f0,f1,f2,f3,f4,f5,f6,f7,f8⟩:=jD (c:=[]) (jB HBY2.out hgr4 fR);clear hq hq4;go_wp2
 refine DX (v:=.tuple #[.agg #[.int .i64 0,.string ⟨([]).toArray⟩,.bool false,.slice none 0 0,.int .i64 0,.int .i64 0,.bool false,.slice none 0 0],.int .i64 10]) gl rfl ?_;refine⟨?_,?_⟩
 ·iterate 8 (refine jJ ?_ fS _)
  exact hgw4
 ·rw [←HR.out]
  exact eL):p:=h
theorem aU {p:Prop} (h:p:=by
 have HE:Hid (Q=(false,kE st)):=ab (HM.out.trans (Du (fun h=>by omega)));have f12:∀x:ExtOf w2,x.val.cell? ⟨R.r,12,none⟩=some (.slice R.ca R.C.cs.length R.cc):=ExtOf.cell c12;have hkn2:decide (k<R.C.cs.length)=false:=DU fR;go_upto_region 26 with fail
 clear p0 p1 p2 p3 p4 p5 p6 p7 p8 p9 p10 c12;refine jF fW fW ?_;repeat (go_big_quiet_step ((fail)))
 refine wpQuiet_nil ?_;rintro _ ⟨xq,rfl⟩;have hxe:=xq.ext;have hre:=HR2.out.later hxe;have HRE:=ab hre;have HXE:=ab (Fx.below (R:=R) hxe);clear hxe hre;go_wp2
 go_ret
 rw [HE.out];exact⟨rfl,HRE.out,(HB1.out.trans HX2.out).trans HXE.out⟩):p:=h
theorem aV {p:Prop} (h:p:=by
 iterate 9 (refine RxV.keep (Kept.setLow _ (fun b hb=>by have:B≤b∧b≠w.heap.size+1∧b≠w.heap.size+3:=hb;first|omega|(simp;done)|(simp;omega))) ?_)
 exact(RxV.close (SlS.none_ _ _ _ _) HKS3.out)):p:=h
theorem aX {p:Prop} (h:p:=by
 have:=HF.out
 have hje:j=i:=fR;subst hje;cases k with
 | zero=>exact this.symm
 | succ k=>simp only [bs] at this;rw [Du fR] at this;exact this.symm):p:=h
theorem aY {p:Prop} (h:p:=by
 rw [hpr] at hq;obtain⟨hq5,rfl,r9,hrd9⟩:=hq;have hq0:q≠0:=mW _ _ _ q hpr;have HR2:Hid (Except.error q=R):=ab iC;have HR:=HR2;have hby5:=jB HBY2.out hq5 fR;have hbl5:Below w.heap.size w w5:=yP hbw2 hq5 fR;have hz5:=hbl5.size;have hb6:Below w5.heap.size w5 (w5.alloc (.cells #[.int .i64 0,.string ⟨#[]⟩,.bool false,.slice none 0 0,.int .i64 0,.int .i64 0,.bool false,.slice none 0 0] 25)):=(Below.refl _ _).alloc (Dv _) _;have hbl6:=hbl5.trans (hb6.mono hz5);have ne1:(q==0)=false:=DV.2 hq0;have ne2:(q != 0)=true:=by simp [bne,ne1]
 obtain⟨f0,f1,f2,f3,f4,f5,f6,f7,f8⟩:=jD (c:=[]) ((hb6.block _ (jA hby5)).trans hby5);clear hpr hby5 hrd9 hb6 hq5;unfold rxv0;go_wp2
 refine DX (v:=.tuple #[.agg #[.int .i64 0,.string ⟨([]).toArray⟩,.bool false,.slice none 0 0,.int .i64 0,.int .i64 0,.bool false,.slice none 0 0],.int .i64 q]) gJ rfl ?_;refine⟨?_,?_⟩
 ·iterate 8 (refine Below.setCell ?_ fS _)
  exact hbl6
 ·rw [←HR.out];rfl):p:=h
theorem aZ {p:Prop} (h:p:=by
 go_ret
 exact⟨jG HR2.out.symm,((Below.refl _ _).alloc (Dv _) _).trans (hb1.mono fX)⟩):p:=h
theorem ba {p:Prop} (h:p:=by
 have HR2:Hid (Except.error 10=R):=ab jg;have HR:=HR2;have HT:=ab ht;have HRD8:=HRD7;rw [hw6] at HRD8;have HW6:=ab hw6;clear hpr ht hw6;go_wp2_with (go_at_call 125;refine(j6 _ HRD8.out HT.out fX).mono ?_)
 rintro e w9 ⟨rfl,hrd9,hq9⟩;rw [←HW6.out] at hq9;have hg9:=jy hg7 hq9;have HRD9:=ab hrd9;obtain⟨f0,f1,f2,f3,f4,f5,f6,f7,f8⟩:=jD (c:=[]) (jB HBY7.out hq9 fR);clear hrd9 hq9 c6 hf6;go_wp2
 refine DX (v:=.tuple #[.agg #[.int .i64 0,.string ⟨([]).toArray⟩,.bool false,.slice none 0 0,.int .i64 0,.int .i64 0,.bool false,.slice none 0 0],.int .i64 10]) gN rfl ?_;refine⟨?_,?_⟩
 ·iterate 8 (refine jJ ?_ fS _)
  exact hg9
 ·rw [←HR.out]
  exact eL):p:=h
theorem bc {p:Prop} (h:p:=by
 go_enter Tryz.func154,Tryz.ntmps154
 go_wp2_with (go_at_call 162;refine(rg _ _ fR).mono ?_;rintro e w1 ⟨rfl,rfl⟩)
 go_ret
 exact⟨jG (by rw [HE.out];generalize (kind==10)=q;first|(cases q<;>rfl)|(generalize nj d=x;first|(cases q<;>cases x<;>rfl)|(generalize nj u=y;cases q<;>cases x<;>cases y<;>rfl))),rfl⟩):p:=h
theorem bd {p:Prop} (h:p:=by
 first|rintro e w1 rfl hbl1 hfr1|rintro e w1 ⟨rfl,hbl1,hfr1⟩
 go_wp2
 go_end0
 exact⟨rfl,by simpa [Rx.tell] using hbl1,((Fr.refl _ _ _ _).alloc _).trans hfr1⟩):p:=h
theorem be {p:Prop} (h:p:=by
 go_enter Tryz.func49,Tryz.ntmps49
 go_wp2_with (go_at_call 33;refine(rl _ _ fR fR HT.out).mono ?_)
 first|rintro e w1 rfl hb1|rintro e w1 ⟨rfl,hb1⟩
 have HT2:=ab (HT.out.keep hb1);go_wp2_with (go_at_call 33;refine(rl _ _ fR fR HT2.out).mono ?_)
 first|rintro e w2 rfl hb2|rintro e w2 ⟨rfl,hb2⟩
 go_wp2
 go_ret
 exact⟨kQ jt,hb1.trans (hb2.mono hb1.size)⟩):p:=h
theorem bf {p:Prop} (h:p:=by
 go_wp2
 have hxs1:=HXS.out.later hbl1;refine DX (v:=.tuple #[.agg #[.int .i64 k,.string ⟨(c).toArray⟩,.bool ng,.slice ra rs.length rc,.int .i64 lo,.int .i64 hi,.bool lz,.slice ka ks.length kc],.int .i64 0]) ga rfl ?_;refine⟨?_,?_⟩
 ·iterate 8 (refine jJ ?_ fS _)
  exact hgw1
 rw [←HR.out];refine⟨rxc k c ng ra rs.length rc lo hi lz ka ks.length kc,rfl,RxV.mono (S:=fun b=>B≤b∧b≠w.heap.size+1∧b≠w.heap.size+3) (fun b hb _=>hb.1) ?_,?_⟩
 ·iterate 8 (refine RxV.keep (Kept.setLow _ (fun b hb=>by have:B≤b∧b≠w.heap.size+1∧b≠w.heap.size+3:=hb;first|omega|(simp;done)|(simp;omega))) ?_)
  exact hxs1
 ·iterate 8 (refine RdT.setHi ?_ fS _)
  exact HRD1.out):p:=h
theorem bg {p:Prop} (h:p:=by
 clear HR;go_enter Tryz.func42,Tryz.ntmps42
 go_wp2_with (go_at_call 69;refine(px ⟨_,n,cse,thn,els⟩ _ _ _ _ _).mono ?_;rintro e w1 ⟨rfl,hb1⟩)
 go_ret
 exact⟨jG HS.out.symm,((Below.refl _ _).alloc (Dv _) _).trans (hb1.mono fX)⟩):p:=h
theorem bh {p:Prop} (h:p:=by
 go_wp2_with (refine lM rfl 70 (.tmp 4) (.tmp 28) rfl (w.heap.size) (#[.int .i64 0,.int .i64 0,.slice none 0 0]) rfl rfl 70 _ (HX4.out) (ky) rfl rfl (gd) (W:=(w4.setRow w.heap.size #[.int .i64 0,.int .i64 0,.slice none 0 0])) (rfl) ?_)
 refine DX (uF Tryz.results107 lx ky HRES.out rfl rfl rfl) rfl ?_;rw [HE.out];exact⟨HJ4.out.gx (qI w4 w.heap.size _) (Nat.ne_of_lt hlr) (fun k hk e=>absurd (hlp k hk) gV) (fun b hb e=>absurd (HX.out.lt b hb) gr),HG4.out.to (qI w4 w.heap.size _) (fun b hb e=>absurd hb gr),rfl⟩):p:=h
theorem bi {p:Prop} (h:p:=by
 have:=HL.out;have h5:=HPL.out;rw [DE];rw [Nat.succ_mul];omega):p:=h
theorem bl {p:Prop} (h:p:=by
 refine jF fW fW ?_;repeat (go_big_quiet_step ((go_at_call 153;exact kg (HTX.out _))))
 refine wpQuiet_nil ?_;rintro _ ⟨xq,rfl⟩;have hxe:=xq.ext;have hre:=HR2.out.later hxe;have HRE:=ab hre;have HXE:=ab (Fx.below (R:=R) hxe);clear hxe hre;go_wp2
 go_ret
 rw [HE.out];exact⟨rfl,HRE.out,(HB1.out.trans HX2.out).trans HXE.out⟩):p:=h
theorem bm {p:Prop} (h:p:=by
 have HO:Hid (okB (.mk k c ng rs lo hi lz ks) left dp=false):=ab (by
  rw [yJ,hG];rcases hld with h|h
  ·rw [DU (by omega:¬1≤left)];rfl
  ·simp;omega)
 clear hF;go_enter Tryz.func41,Tryz.ntmps41
 go_wp2_with (first|(go_at_call 67;refine(pF _ _).mono ?_;rintro e w1 ⟨rfl,rfl⟩;rw [hG])|(go_at_call 68;refine(pA _ HF.out HRS.out HX0.out HS1.out).mono ?_;rintro e w1 ⟨rfl,hb1,hc1⟩;have z1:=hc1 ⟨w.heap.size,7,none⟩ (.slice ka ks.length kc) fX))
 all_goals first
  | (exfalso;omega)
  | (go_ret2;refine⟨⟨left,by rw [HO.out];rfl,fun h=>by rw [HO.out] at h;cases h⟩,?_⟩;first|exact(Below.refl _ _).alloc (Dv _) _|exact((Below.refl _ _).alloc (Dv _) _).trans (hb1.mono fX))):p:=h
theorem bn {p:Prop} (h:p:=by
 first|exact(hbw2.trans (hb3.mono hz2)).trans (hfr4.below (by have:=hb3.size;omega) fY)|exact hbw2.trans (hfr4.below hz2 fY)):p:=h
theorem bu {p:Prop} (h:p:=by
 have HF:=ab hF;have HO:Hid (okB (.mk k c ng rs lo hi lz ks) left dp=false):=ab (by rw [yJ,hF];simp);clear hF;go_enter Tryz.func41,Tryz.ntmps41
 go_wp2_with (first|(go_at_call 67;refine(pF _ _).mono ?_;rintro e w1 ⟨rfl,rfl⟩;rw [hG])|(go_at_call 68;refine(pA _ HF.out HRS.out HX0.out HS1.out).mono ?_;rintro e w1 ⟨rfl,hb1,hc1⟩;have z1:=hc1 ⟨w.heap.size,7,none⟩ (.slice ka ks.length kc) fX))
 all_goals
  (go_ret2;refine⟨⟨left,by rw [HO.out];rfl,fun h=>by rw [HO.out] at h;cases h⟩,?_⟩;first|exact(Below.refl _ _).alloc (Dv _) _|exact((Below.refl _ _).alloc (Dv _) _).trans (hb1.mono fX))):p:=h
theorem bw {p:Prop} (h:p:=by
 go_wp2_with (go_at_call 35;refine(jU w.heap.size _ acc _ _ gU fR gY jf).mono ?_;rintro e w2 ⟨rfl,hbl2,hfr2⟩)
 go_roundw
 case rel =>
  refine⟨k+1,acc++p,by omega,by go_num,hbl2,?_,ab ?_,ab ?_⟩
  ·exact eX
  ·exact eN
  ·exact eZ
 case measure=>simp [intOf];omega):p:=h
theorem bx {p:Prop} (h:p:=by
 refine wpQuiet_nil ?_;rintro _ ⟨xq,rfl⟩;cases hL1:leS f t' with
 | true =>
  have HE:Hid (R=false):=ab (by rw [←HF'.out,HPJ.out];simp only [mC];rw [HB.out,hL1];rfl);exact fH
 | false =>
  have HL:=ab hL1;go_wp2
  go_roundw
  case rel=>exact⟨j+1+1,some t,by omega,by go_num,(hb.alloc hB _).trans (xq.ext.mono fY),ab (.inr ⟨j+1,(f,t),rfl,HE3.out,rfl⟩),ab (by rw [Hr.out,←HF'.out,HPJ.out];simp only [mC];rw [HB.out,HL.out];rfl)⟩
  case measure=>simp [intOf];omega):p:=h
theorem bA {p:Prop} (h:p:=by
 obtain⟨t,rfl,rfl⟩:=hq;obtain⟨f0,f1,f2,f3,f4,f5,f6,f7,f8⟩:=jD (c:=[]) HBY1.out;go_wp2
 refine DX (v:=.tuple #[.agg #[.int .i64 0,.string ⟨([]).toArray⟩,.bool false,.slice none 0 0,.int .i64 0,.int .i64 0,.bool false,.slice none 0 0],.int .i64 10]) gi rfl ?_;refine⟨?_,?_⟩
 ·iterate 8 (refine jJ ?_ fS _)
  exact hg1
 ·rw [←HR.out]
  exact eY):p:=h
theorem bC {p:Prop} (h:p:=by
 go_enter Tryz.func49,Tryz.ntmps49
 go_wp2_with (go_at_call 33;refine(rl _ _ fR fR HT.out).mono ?_;rintro e w1 ⟨rfl,hb1⟩)
 go_ret
 exact⟨kQ jt,hb1⟩):p:=h
theorem bD {p:Prop} (h:p:=by
 go_region_law (refine ry w.heap.size 5 (w:=wr.drew) rfl rfl _ _ 48 rfl Tryz.underlying48 hiu rfl fU rfl k3 rfl gQ rfl gd fR fU hB ?_;intro v1 w2 hown1 hg1 _ _;obtain⟨a1,c1,rfl,d1,d2,hrs1,hbl1⟩:=RS.text_app (w:=wr.drew) hrs k1 hown1 hg1 hB)
 all_goals
  go_wp2
  go_roundw
  case rel =>
   refine⟨j+1,tx++[c],fs,by omega,by omega,by go_num,hrs1,Below.trans hb.drew hbl1,by simp;omega,by omega,ab je,HLO,ab ?_⟩;rw [Hr.out,←HE.out]
  case measure=>simp [intOf];omega):p:=h
theorem bE {p:Prop} (h:p:=by
 iterate 9 (refine RdT.setHi ?_ fS _)
 exact HRD3.out):p:=h
theorem bF {p:Prop} (h:p:=by
 iterate 9 (refine jJ ?_ fS _)
 exact hgw3):p:=h
theorem bH {p:Prop} (h:p:=by
 exact⟨a,m,b,by first|rfl|go_num|(simp;omega),by first|rfl|go_num|(simp;omega),by omega,by omega,by omega,by omega,HRO.out,km _ _,HT⟩):p:=h
theorem bI {p:Prop} (h:p:=by
 subst hij2;clear HF hk hi hj;go_wp2_with (go_at_call 174;refine(HC1.out _ hro).mono ?_)
 first|rintro e w6 rfl hr6 hh6|rintro e w6 ⟨rfl,hr6,hh6⟩
 have hg6:=jy hg hh6;clear hh6;go_wp2_with (go_at_call 173;refine(HC2.out _ hr6).mono ?_)
 first|rintro e w7 rfl hr7 hh7|rintro e w7 ⟨rfl,hr7,hh7⟩
 have hg7:=jy hg6 hh7;clear hh7;go_wp2_with (go_at_call 173;refine(HC3.out _ hr7).mono ?_)
 first|rintro e w8 rfl hr8 hh8|rintro e w8 ⟨rfl,hr8,hh8⟩
 have hg8:=jy hg7 hh8;clear hh8;go_wp2
 go_end0
 exact⟨rfl,hr8,hg8⟩):p:=h
theorem bJ {p:Prop} (h:p:=by
 clear hd HS hr c47 c92;go_wp2_with (at_builtin;refine kv w.heap.size 5 rfl _ _ 48 rfl Tryz.underlying48 hiu rfl fU rfl hown rfl gQ rfl gd fR fU hB ?_;intro v1 w1 hown1 hg1 hb1 hne1)
 go_roundw
 case rel =>
  refine⟨(j+1),(a++[c]),by omega,by omega,by go_num,?_,?_,hb.trans hb1,by simp;omega,HS2⟩
  ·simpa [kx] using hown1
  ·exact fK
 case measure=>simp [intOf];omega):p:=h
theorem bK {p:Prop} (h:p:=by
 cases r with
 | nil=>cases h
 | cons c2 r2 =>
  simp only [escM] at h;cases hn:l8 c2 with
  | some rows=>simp only [hn] at h;injection h with h;injection h with ha _;subst ha;rfl
  | none =>
   simp only [hn] at h;cases hb:bigS c2 with
   | some rows=>simp only [hb] at h;injection h with h;injection h with ha _;subst ha;rfl
   | none =>
    simp only [hb] at h;cases hpm:lr c2 with
    | none=>exact fO
    | some t=>simp only [hpm] at h;injection h with h;injection h with ha _;subst ha;rfl):p:=h
theorem bL {p:Prop} (h:p:=by
 unfold Oper.wp at *;generalize (execOp a.eval o).run P w=r at *
 cases r with
 | ok n w' =>
  cases n<;>simp only [Oper.upon] at h ⊢<;>first|exact h|exact h.mono (fun e w'' he=>by cases e<;>exact he)
 | halt x w'=>cases x<;>simp only [Oper.upon] at h ⊢<;>exact h):p:=h
theorem bM {p:Prop} (h:p:=by
 intro hk;have h1:=ih fR;obtain⟨ok,hok⟩:∃ok,ops[t-k]?=some ok:=⟨_,Dt fR⟩;have h2:=ut hch (t:=t-k) fR (by simpa using hok) (hclo _ ok (by simpa using hok) h1);rw [show t-(k+1)=t-k-1 by omega];exact h2):p:=h
theorem bN {p:Prop} (h:p:=by
 generalize hx:l[k]=x at *
 have Hx:=ab hx;clear hx;go_wp2_with (fail)
 go_roundw
 case rel=>exact⟨k+1,by omega,by go_num,HR.out,hb,hlt⟩
 case measure=>simp [intOf];omega):p:=h
theorem bO {p:Prop} (h:p:=by
 go_wp2_with (go_at_call 154;refine HS.out.mono ?_)
 first|rintro x w' rfl rfl|rintro x w' ⟨rfl,rfl⟩
 go_wp2
 go_ret
 rw [HE.out];exact⟨rfl,HR2.out,HB1.out.trans HX2.out⟩):p:=h
theorem bP {p:Prop} (h:p:=by
 refine⟨rxc yk yc yn ya yr.length yrc yl yh yz yka ys.length ykc,rfl,RxV.mono (S:=fun b=>w.heap.size+1≤b) (fun b hb _=>by have:w.heap.size+1≤b:=hb;show w.heap.size≤b;omega) (RxV.close ?_ ?_),?_⟩
 ·iterate 8 (refine SlS.keep ?_ (Kept.setLow _ (fun b hb=>by have:w.heap.size+1≤b:=hb;simp;omega)))
  exact HYR.out
 ·iterate 8 (refine RxSl.keep ?_ (Kept.setLow _ (fun b hb=>by have:w.heap.size+1≤b:=hb;simp;omega)))
  exact HYX.out
 ·iterate 8 (refine Below.setCell ?_ fX _)
  exact hbw1):p:=h
theorem bQ {p:Prop} (h:p:=by
 go_ret
 exact⟨jG HR2.out.symm,(((Below.refl _ _).alloc (Dv _) _).trans (hb1.mono fX)).trans ((((Below.refl w1.heap.size w1).alloc (Dv _) _).trans (hb2.mono fX)).mono jd)⟩):p:=h
theorem bR {p:Prop} (h:p:=by
 iterate 8 (refine RxV.keep (Kept.setLow _ (fun b hb=>by have:w.heap.size≤b∧b≠w.heap.size:=hb;first|omega|(simp;done)|(simp;omega))) ?_)
 exact HV.out):p:=h
theorem bS {p:Prop} (h:p:=by
 exact⟨LO,M,b,by first|rfl|go_num|(simp;omega),by first|rfl|go_num|(simp;omega),by omega,by omega,by omega,by omega,HRO.out,km _ _,HT⟩):p:=h
theorem bT {p:Prop} (h:p:=by
 go_wp2_with (refine lM rfl 70 (.tmp 4) (.tmp 32) rfl (w.heap.size) (#[.int .i64 0,.int .i64 0,.slice none 0 0]) rfl rfl 70 _ (HXB.out) (ky) rfl rfl (gd) (W:=(wr.setRow w.heap.size #[.int .i64 0,.int .i64 0,.slice none 0 0])) (rfl) ?_)
 refine DX (uF Tryz.results84 lx ky HRE.out rfl rfl rfl) rfl ?_;rw [←HE.out];exact⟨HJE.out,HGE.out,rfl⟩):p:=h
theorem bU {p:Prop} (h:p:=by
 go_upto_region 1 with fail
 rw [←HW0.out];clear HW0;go_wp2_with (first
  | (refine jI rfl 28 (.tmp 1) rfl w.heap.size 0 rfl fc _ (jK (ds:=[]) ie) j0 rfl gW ?_)
  | (go_at_call 9;refine HMY.out.mono ?_)
  | (go_at_call 10;refine HMY.out.mono ?_))
 first|rintro e w1 rfl hb1|rintro e w1 ⟨rfl,hb1⟩
 go_wp2
 go_ret2
 exact⟨rfl,bel2 HB0.out hb1⟩):p:=h
theorem bV {p:Prop} (h:p:=by
 iterate 8 (refine jJ ?_ fS _)
 exact hg2):p:=h
theorem bZ {p:Prop} (h:p:=by
 first|rintro x w' rfl hr hx|rintro x w' ⟨rfl,hr,hx⟩
 go_wp2
 go_ret
 rw [HE.out];exact⟨rfl,hr,(HB1.out.trans HX2.out).trans hx⟩):p:=h
theorem b7 {p:Prop} (h:p:=by
 have hl3:0≤l':=by omega
 have hl4:l'≤100000:=fR;have HE4:Hid (l'-Rx.partsL r=tot):=ab (by rw [hl2];exact HE2.out);clear hl' hl2;go_wp2
 go_roundw
 case rel=>exact⟨i+1,l',by omega,by go_num,rfl,hl3,hl4,(hb.alloc hB _).trans (hb2.mono fY),ab ju,ab (by rw [Hr.out];exact HE4.out)⟩
 case measure=>simp [intOf];omega):p:=h
theorem ce {p:Prop} (h:p:=by
 go_wp2
 go_ret
 exact⟨kQ (by rw [←HR.out];simp [oftS]),Below.refl _ _⟩):p:=h
theorem cf {p:Prop} (h:p:=by
 show Calls Tryz.prog 164 #[.int .i64 (e:Int),.pointer (some ⟨b3,0,none⟩),.pointer (some ⟨b4,0,none⟩),.pointer (some ⟨b2,0,none⟩),.pointer (some ⟨b1,0,none⟩),.pointer (some ⟨b5,0,none⟩)] w _
 go_enter Tryz.func164,Tryz.ntmps164
 go_wp2_with (go_at_call 150;refine HC.out.mono ?_)
 rintro x w' ⟨rfl,hr,hx⟩;go_wp2
 go_ret
 exact⟨rfl,hr,hx⟩):p:=h
theorem cg {p:Prop} (h:p:=by
 iterate 8 (refine SlS.keep ?_ (Kept.setLow _ (fun b hb=>by have:w.heap.size+1≤b:=hb;simp;omega)))
 exact SlS.none_ _ _ _ _):p:=h
theorem ci {p:Prop} (h:p:=by
 iterate 8 (refine RdT.setHi ?_ fS _)
 exact HRD3.out):p:=h
theorem ck {p:Prop} (h:p:=by
 refine hcall.mono fun e W' ⟨he,hg⟩=>?_
 subst he;exact⟨_,rfl,uj (pv:=[]) hW' (fun _ _ _=>(trodAll_cons_mk (shut_bool Tryz.underlying4 _) trodAll_mk0)) (fun sp hsp=>hagain W' hg sp (fun x hx=>hsp x (List.mem_append_left _ hx))) (fun _ _=>rfl) rfl hg (ok_one fW rfl (okWide_bool_mk Tryz.underlying4 _))⟩):p:=h
theorem cl {p:Prop} (h:p:=by
 iterate 8 (refine jJ ?_ fS _)
 exact hg3):p:=h
theorem cm {p:Prop} (h:p:=by
 refine wpQuiet_nil ?_;rintro _ ⟨xq,rfl⟩;go_wp2
 go_roundw
 case rel=>exact⟨k+1,some t,by omega,by go_num,(hb.alloc hB _).trans (xq.ext.mono fY),ab (.inr ⟨k,(f,t),rfl,HE3.out,rfl⟩),ab (by rw [Hr.out,←HF'.out];simp only [mC];rw [HB.out];simp [HL.out])⟩
 case measure=>simp [intOf];omega):p:=h
theorem cn {p:Prop} (h:p:=by
 have h2:ks.length≤i:=gm;have HE:Hid (R=true):=ab (by rw [←HL.out,hd,okL_nil hl0 hd0]);have HE2:Hid (l=tot):=ab (by rw [←HTL.out,hd];simp [Rx.partsL]);clear hd HL HTL;go_wp2
 go_ret2
 exact⟨⟨l,by rw [HOR.out,HE.out];rfl,fun _=>by rw [HE2.out,←HTT.out]⟩,hbw1.trans (hb.mono hz1)⟩):p:=h
theorem cq {p:Prop} (h:p:=by
 go_enter Tryz.func161,Tryz.ntmps161
 go_wp2_with (go_at_call 169;refine(Cl _ _).mono ?_;rintro e w1 ⟨rfl,rfl⟩)
 go_ret
 exact⟨lC HE.out.symm,rfl⟩):p:=h
theorem cr {p:Prop} (h:p:=by
 have HK:=ab hk;have HM:=ab hm;clear hk hm;go_enter Tryz.func47,Tryz.ntmps47
 go_wp2_with (go_at_call 28;refine(kB _ HK.out).mono ?_;rintro e w1 ⟨rfl,rfl⟩)
 all_goals
  go_ret
  refine⟨kQ ?_,rfl⟩;rw [←HR.out];have hm:=HM.out;clear HR HM HK;unfold escL
  (repeat' split)<;>simp_all):p:=h
theorem cu {p:Prop} (h:p:=by
 refine wpQuiet_nil ?_;rintro _ ⟨xq,rfl⟩;go_wp2
 go_ret
 exact⟨rfl,HB0.out.trans (xq.ext.mono fX)⟩):p:=h
theorem cw {p:Prop} (h:p:=by
 go_enter Tryz.func145,Tryz.ntmps145
 go_wp2
 go_ret2
 exact⟨rfl,rfl⟩):p:=h
theorem cx {p:Prop} (h:p:=by
 first|rintro x w' rfl hr hx|rintro x w' ⟨rfl,hr,hx⟩
 go_wp2
 go_ret
 rw [HE.out];exact⟨rfl,hr,(HB1.out.trans HX2.out).trans (HXE.out.trans hx)⟩):p:=h
theorem cz {p:Prop} (h:p:=by
 clear hB;go_enter Tryz.func42,Tryz.ntmps42
 go_wp2_with (go_at_call 69;refine(px ⟨_,n,cse,thn,els⟩ _ _ _ _ _).mono ?_;rintro e w1 ⟨rfl,hb1⟩)
 go_ret
 refine⟨jG ?_,((Below.refl _ _).alloc (Dv _) _).trans (hb1.mono fX)⟩;rw [HS.out,hB'];simp):p:=h
theorem cA {p:Prop} (h:p:=by
 have hkl:k=l.length:=fR;subst hkl;have hcv2:=hr.back (P:=Tryz.prog) (src:=48) (dst:=9) Tryz.underlying48 Tryz.underlying5 Tryz.underlying9 cap;simp only [List.take_length,List.drop_length,D8,DS] at hcv2;go_wp2
 go_ret2
 exact⟨rfl,hb⟩):p:=h
theorem cB {p:Prop} (h:p:=by
 have hkl:k=l.length:=fR;subst hkl;have hcv2:=hr.back (P:=Tryz.prog) (src:=48) (dst:=9) Tryz.underlying48 Tryz.underlying5 Tryz.underlying9 cap;simp only [List.take_length,List.drop_length,D8,DS] at hcv2;go_wp2
 go_ret
 exact⟨rfl,hb⟩):p:=h
theorem cD {p:Prop} (h:p:=by
 iterate 8 (refine RdT.setHi ?_ fS _)
 exact HRD2.out):p:=h
theorem cE {p:Prop} (h:p:=by
 go_wp2_with (go_at_call 53;refine HS.out.mono ?_)
 rintro e w1 ⟨rfl,hst⟩;obtain⟨i,hi,c1,hf,hr⟩:=(hst.rd HR.out).step;have HR1:=ab hr;clear hr;unfold hdS;go_wp2
 go_ret
 exact⟨rfl,HR1.out,xp hst (jR (km _ _) _ _)⟩):p:=h
theorem cF {p:Prop} (h:p:=by
 split at h
 ·rename_i heq
  have:=nh _ _ _ heq
  exact fA
 ·cases h):p:=h
theorem cG {p:Prop} (h:p:=by
 go_roundw
 case rel =>
  refine⟨j+1,tx++[c],by omega,by omega,by go_num,?_,hb.trans hb1,by simp;omega,by simp;omega,?_⟩
  ·simpa [kx] using hown1
  ·exact ab (by rw [Hr.out,←HS.out];exact HF'.out)
 case measure=>simp [intOf];omega):p:=h
theorem cH {p:Prop} (h:p:=by
 clear ho1 hg1 hmv;go_wp2
 go_roundw
 case rel=>exact⟨i+1,by omega,by go_num,hb4',hox4⟩
 case measure=>simp [intOf];omega):p:=h
theorem cI {p:Prop} (h:p:=by
 subst hij2;clear HF hk hi hj;go_wp2_with (go_at_call 174;refine(HC1.out _ hro).mono ?_)
 first|rintro e w6 rfl hr6 hh6|rintro e w6 ⟨rfl,hr6,hh6⟩
 have hg6:=jy hg hh6;clear hh6;go_wp2
 go_end0
 exact⟨rfl,hr6,hg6⟩):p:=h
theorem cJ {p:Prop} (h:p:=by
 iterate 8 (refine RxSl.keep ?_ (Kept.setLow _ (fun b hb=>by have:w.heap.size+1≤b:=hb;simp;omega)))
 exact HX1.out):p:=h
theorem cK {p:Prop} (h:p:=by
 go_ret
 exact⟨jG HR2.out.symm,((((below_drewN ((Below.refl w.heap.size w).alloc (Dv _) _) _).setCell fX _).setCell fX _).setCell fX _).trans (hb1.mono jp)⟩):p:=h
theorem cL {p:Prop} (h:p:=by
 rw [show k+1-1=k from rfl,HK.out] at hg;injection hg with hg;subst hg;first|rfl|(simp;done)|(simp [HK0.out];done)):p:=h
theorem cM {p:Prop} (h:p:=by
 go_wp2
 go_ret
 exact⟨rfl,rfl⟩):p:=h
theorem cN {p:Prop} (h:p:=by
 refine⟨?_,?_⟩
 ·rw [DJ fY];simpa [show (k+1)*2-2=k*2 by omega] using h1
 ·rw [DJ fY];simpa [show (k+1)*2+1-2=k*2+1 by omega] using h2):p:=h
theorem cO {p:Prop} (h:p:=by
 go_enter Tryz.func115,Tryz.ntmps115
 go_wp2_with (go_at_call 51;refine(nD _ _ fR).mono ?_;rintro e w1 ⟨rfl,rfl⟩)
 go_ret
 exact⟨jG HE.out.symm,(Below.refl _ _).alloc (Dv _) _⟩):p:=h
theorem cP {p:Prop} (h:p:=by
 obtain⟨n0,n1⟩:=yi hm;have h3:=nJ n0 n1;have h4:=mg five f.thn;have h5:=mg five f.els;have h6:=mg four f.thn;have h7:=nP f.cse;unfold lH
 (repeat' split)<;>simp<;>omega):p:=h
theorem cQ {p:Prop} (h:p:=by
 rintro e w1 ⟨rfl,hrd1,hq1⟩;have hg1:=jy hg0 hq1;have HRD1:=ab hrd1;have hz1:=hq1.size;clear hrd1 hq1;go_wp2
 go_ret3
 exact⟨hg1,by rw [←HR.out];exact⟨rfl,_,HRD1.out⟩⟩):p:=h
theorem cR {p:Prop} (h:p:=by
 simp only [hx] at h;cases h):p:=h
theorem cS {p:Prop} (h:p:=by
 rcases Nat.lt_or_ge i l.length with h1|h1
 ·exact h1
 ·rw [List.drop_of_length_le h1] at h;cases h):p:=h
theorem cT {p:Prop} (h:p:=by
 unfold lq at h;simp only at h
 generalize kp _ _ _=q at h
 cases q with
 | none=>simp only at h;cases h
 | some y=>simp only at h;injection h with h;injection h with ha _;subst ha;rfl):p:=h
theorem cU {p:Prop} (h:p:=by
 have:=heap_alloc_new (w.alloc (.cells (rxc kd ch ng ra rs.length rc lo hi lz ka ks.length kc).toArray 25)) (.cells #[.int .i64 0,.int .i64 0,.slice none 0 0] 70)
 rw [hW1];simpa using this):p:=h
theorem cW {p:Prop} (h:p:=by
 have h:=hbl4;simpa [lH,five,four] using h):p:=h
theorem cX {p:Prop} (h:p:=by
 go_roundw
 case rel=>exact⟨k+1,by omega,by go_num,HS'.out,hb.setCell (p:=⟨w.heap.size,k,none⟩) (Dv _) _,by simp [World.setCell];omega⟩
 case measure=>simp [intOf];omega):p:=h
theorem cY {p:Prop} (h:p:=by
 intro v1 w1 ho1 hg1 hb1 _;obtain⟨a1,c1,rfl⟩:=jX ho1;go_wp2
 go_ret
 refine⟨a1,c1,by simp,by simpa using uM ho1,((Below.refl _ _).alloc (Dv _) _).trans hb1⟩):p:=h
theorem cZ {p:Prop} (h:p:=by
 have HE3:Hid (R=false):=ab (by rw [HE.out,hok];rfl);clear hl';go_wp2
 go_ret2
 exact⟨⟨_,by rw [HOR.out,HE3.out];rfl,fun h=>by rw [HOR.out,HE3.out] at h;cases h⟩,hbw2⟩):p:=h
theorem db {p:Prop} (h:p:=by
 first|rintro e w1 rfl hb1|rintro e w1 ⟨rfl,hb1⟩
 go_wp2
 go_ret
 exact⟨rfl,bel2 hb0 hb1⟩):p:=h
theorem dd {p:Prop} (h:p:=by
 go_enter Tryz.func60,Tryz.ntmps60
 go_wp2_with (go_at_call 89;refine(Au _ _ _ hs).mono ?_;rintro e w1 ⟨rfl,hb1⟩)
 go_ret2
 exact⟨rfl,hb0.trans (hb1.mono hb0.size)⟩):p:=h
theorem de {p:Prop} (h:p:=by
 rw [DB hj.box];unfold Rn.cells;simp only [List.getElem?_toArray];rw [DJ (by rw [hB.j.tp];omega),hB.j.tp,Nat.add_sub_cancel_left];exact hu):p:=h
theorem df {p:Prop} (h:p:=by
 iterate 9 (refine RxV.keep (Kept.setLow _ (fun b hb=>by have:w.heap.size≤b∧b≠w.heap.size∧b≠w1.heap.size:=hb;first|omega|(simp;done)|(simp;omega))) ?_)
 exact HUS.out):p:=h
theorem dg {p:Prop} (h:p:=by
 obtain⟨va,vc,rfl⟩:=jX hown;have HOWN:=ab hown;clear hd HF hown;go_wp2
 go_ret
 exact⟨va,vc,by rw [HE.out];rfl,by rw [←HE.out];exact uM HOWN.out,hb⟩):p:=h
theorem dk {p:Prop} (h:p:=by
 rw [Hr.out,D6,←HR.out]):p:=h
theorem dl {p:Prop} (h:p:=by
 have h2:rs.length≤k:=gm;have HE:Hid (R=true):=ab gC;clear hd HF;go_wp2
 go_ret
 exact⟨jG HE.out.symm,hb⟩):p:=h
theorem dm {p:Prop} (h:p:=by
 exact⟨0,by omega,rfl,by simpa using hrow,hb0,by omega⟩):p:=h
theorem dr {p:Prop} (h:p:=by
 rw [DB h];rfl):p:=h
theorem du {p:Prop} (h:p:=by
 rw [srt_app];refine⟨h1,List.pairwise_cons.2 ⟨k2,h2⟩,fun y hy z hz=>?_⟩;rcases DF.1 hz with rfl|hz
 ·exact k1 y hy
 ·exact h3 y hy z hz):p:=h
theorem dx {p:Prop} (h:p:=by
 have:=h.cells (g:=g) rfl j u hu
 have hadd:(⟨g,0,none⟩:Addr).add j=⟨g,0+j,none⟩:=by unfold Addr.add;split<;>simp_all
 rw [hadd] at this;exact this):p:=h
theorem dy {p:Prop} (h:p:=by
 have:=HF.out
 have hje:j=i:=fR;subst hje;cases k with
 | zero=>exact this
 | succ k=>simp only [bs] at this;rw [Du fR] at this;exact this):p:=h
theorem dz {p:Prop} (h:p:=by
 clear HG;go_wp2
 refine DX (v:=.tuple #[]) (results_none rfl _ _ _) rfl ?_;exact⟨rfl,by rw [←HE.out];exact hrol,jy hg hgl⟩):p:=h
theorem dB {p:Prop} (h:p:=by
 obtain⟨css,h1,_⟩:=h;rcases h1.2 with⟨rfl,h0⟩|⟨b,cap,cur,rfl,_,_,hn,_⟩
 ·exact⟨none,0,by rw [h0],by omega⟩
 ·exact⟨_,_,rfl,hn⟩):p:=h
theorem dC {p:Prop} (h:p:=by
 rintro x w' ⟨rfl,hr,hx⟩;go_wp2
 go_ret
 exact⟨rfl,hr,HB1.out.trans hx⟩):p:=h
theorem dD {p:Prop} (h:p:=by
 have e2:(pre++[v]).length=pre.length+1:=fX;rw [e2] at h2;have e3:pre++[v]++(vs++post)=pre++(v::vs++post):=fX;rw [e3] at h2;exact h2):p:=h
theorem dE {p:Prop} (h:p:=by
 go_wp2
 go_ret
 rw [←HQ4.out];exact⟨rfl,HR4.out,HX5.out.trans HX4.out⟩):p:=h
theorem dF {p:Prop} (h:p:=by
 intro h;rw [List.flatten_cons,DE,ih (fun x hx=>h x (DI _ hx)),h c (DH ..)];simp;omega):p:=h
theorem dG {p:Prop} (h:p:=by
 rw [←HR.out];refine⟨rfl,?_⟩;iterate 8 (refine RdE.setHi ?_ fS _)
 exact⟨_,HRD2.out⟩):p:=h
theorem dH {p:Prop} (h:p:=by
 go_wp2
 all_goals
  go_ret
  refine⟨?_,rfl⟩;simp;rw [HR.out];first|(rw [Dr fR];omega)|(rw [Du fR];omega)):p:=h
theorem dI {p:Prop} (h:p:=by
 go_wp2_with (go_at_call 129;refine HC.out.mono ?_)
 rintro x w' ⟨rfl,hr,hx⟩;go_wp2
 go_ret
 exact⟨rfl,hr,HB.out.trans hx⟩):p:=h
theorem dJ {p:Prop} (h:p:=by
 clear ho4 hg4 hmv;go_wp2
 go_roundw
 case rel=>exact⟨i+1,by omega,by go_num,hb4',ho5,hs4⟩
 case measure=>simp [intOf];omega):p:=h
theorem dL {p:Prop} (h:p:=by
 have e3:=pg e1;have e4:=pg e2;simp only [execOp,ho];go_simp):p:=h
theorem dM {p:Prop} (h:p:=by
 go_enter Tryz.func25,Tryz.ntmps25
 go_wp2
 go_region
 all_goals (go_wp2;go_ret;exact⟨rfl,Below.drew (Below.refl B w)⟩)):p:=h
theorem dN {p:Prop} (h:p:=by
 exact n8 fU):p:=h
theorem dO {p:Prop} (h:p:=by
 rcases hmv with h|h
 ·exact hb.1.2 (h▸e)
 ·have:=h b e;omega):p:=h
theorem dP {p:Prop} (h:p:=by
 exact((hb.alloc hB _).trans (hb1.mono fY)).trans (hfr2.below fR (by simp;have:=hbl.le;omega))):p:=h
theorem dQ {p:Prop} (h:p:=by
 refine(wQ l i w h0 fR fR).mono ?_
 rintro e w1 ⟨hw,hp⟩;rw [hN] at hp;exact⟨hw,hp⟩):p:=h
theorem dR {p:Prop} (h:p:=by
 split at h
 ·injection h with h;injection h with _ h;subst h;exact⟨Dv _,fun e=>by omega⟩
 ·cases h):p:=h
theorem dS {p:Prop} (h:p:=by
 injection h with h;injection h with h3 h;injection h with h4 h5
 subst h5;exact kF (D9 _ _)):p:=h
theorem dU {p:Prop} (h:p:=by
 obtain⟨rfl,rfl⟩:=hrel;go_wp2
 go_end0
 exact⟨rfl,rfl⟩):p:=h
theorem dV {p:Prop} (h:p:=by
 rename_i y hy
 rw [hy] at f1 f2 f3;simp only [Rx.partsL,Rx.groupsL] at f2 f3;exact⟨f1.1,by omega,by omega⟩):p:=h
theorem dW {p:Prop} (h:p:=by
 exact⟨0,[],by omega,rfl,Bld.fresh _ _ hB0,hb0.alloc hB0 _,ab fX,ab gX⟩):p:=h
theorem dX {p:Prop} (h:p:=by
 unfold lv;rw [Du fR,Du fR,Du fR,Du fR,Du fR]):p:=h
theorem dY {p:Prop} (h:p:=by
 first|rintro e w2 rfl hb2|rintro e w2 ⟨rfl,hb2⟩
 go_wp2
 go_ret
 exact⟨by simp,bel2 (bel2 hb0 hb1) hb2⟩):p:=h
theorem d9 {p:Prop} (h:p:=by
 go_wp2
 all_goals
  go_ret
  refine⟨jG ?_,HBW.out _⟩;rw [←HR.out,Bool.eq_iff_iff];simp [lJ, *]):p:=h
theorem eb {p:Prop} (h:p:=by
 rw [tn] at hn;split at hn
 ·rename_i q;injection hn with hn;exact⟨b,rfl,q,hn.symm⟩
 ·cases hn):p:=h
theorem ee {p:Prop} (h:p:=by
 simp only [anyK,List.any_cons,List.all_cons,Bool.not_or] at *;rw [ih];congr 1;rw [Bool.eq_iff_iff];simp):p:=h
theorem ef {p:Prop} (h:p:=by
 refine⟨by omega,fun q hq=>?_⟩;rcases DF.1 hq with rfl|hq
 ·omega
 ·have:=h2 q hq;omega):p:=h
theorem eh {p:Prop} (h:p:=by
 obtain⟨t,rfl,rfl⟩:=hq;go_wp2
 go_ret3
 exact⟨hg2,by rw [←HR.out];exact⟨rfl,_,HRD2.out⟩⟩):p:=h
theorem ei {p:Prop} (h:p:=by
 simp only [h5] at h;cases h):p:=h
theorem el {p:Prop} (h:p:=by
 exact⟨[],r0,World.ownsRow_nil _ _ _ _,HRD2.out,km _ _,by simp,by omega,by simp,HR0⟩):p:=h
theorem em {p:Prop} (h:p:=by
 refine(Aw l i n w h1 hs).mono ?_
 rintro e w1 ⟨hb,hp⟩;rw [hB] at hp;exact⟨hb,hp⟩):p:=h
theorem eo {p:Prop} (h:p:=by
 split at h
 ·injection h with h;injection h with _ h;subst h;exact Ea _
 ·cases h):p:=h
theorem ep {p:Prop} (h:p:=by
 simp only [asAddr,Sem.run_pure,Result.andThen];rw [run_loadVar_row w b t ty cs f _ h hu rfl hi]):p:=h
theorem et {p:Prop} (h:p:=by
 go_wp2
 go_roundw
 case rel=>exact⟨rfl,.inr (.inl ⟨rfl,rfl⟩)⟩
 case measure=>simp [intOf]):p:=h
theorem eu {p:Prop} (h:p:=by
 rw [DB this];rfl):p:=h
theorem ew {p:Prop} (h:p:=by
 rintro x w' ⟨rfl,hr,hx⟩;go_wp2
 go_ret
 exact⟨rfl,hr,(HB1.out.trans HX2.out).trans hx⟩):p:=h
theorem ex {p:Prop} (h:p:=by
 go_ret
 exact⟨rfl,((Below.refl _ _).alloc (Dv _) _).trans (hb1.mono fX)⟩):p:=h
theorem ey {p:Prop} (h:p:=by
 exact⟨0,false,by omega,rfl,Below.refl _ _,ab ⟨fun _=>rfl,fun h=>by omega⟩,HR0⟩):p:=h
theorem ez {p:Prop} (h:p:=by
 iterate 9 (refine RdT.setHi ?_ fS _)
 exact HRD4.out):p:=h
theorem eA {p:Prop} (h:p:=by
 iterate 9 (refine jJ ?_ fS _)
 exact hgw4):p:=h
theorem eB {p:Prop} (h:p:=by
 simp only [partsL];rcases DF.1 h with rfl|h
 ·omega
 ·have:=parts_mem h;omega):p:=h
theorem eC {p:Prop} (h:p:=by
 have hk0:k=0:=fR;subst hk0;have:=Hm.out
 rw [Du h0k];unfold ud;simp;omega):p:=h
theorem eD {p:Prop} (h:p:=by
 rw [tn] at hn;cases hb:mw b with
 | true=>rw [hb] at hn;cases hn
 | false=>rfl):p:=h
theorem eE {p:Prop} (h:p:=by
 exact⟨0,by omega,rfl,Below.refl _ _,by rw [List.take_zero];exact OwnX.nil _ _⟩):p:=h
theorem eF {p:Prop} (h:p:=by
 obtain⟨x,r3⟩:=y;rw [hat] at hq;obtain⟨hq2,cc,rfl,hxv,hrd2⟩:=hq;have HR2:Hid (kz x r3=R):=ab iV;have HR:=HR2;have hg2:=jy hg1 hq2;have hby2:=jB HBY1.out hq2 fR;have hz2:=hq2.size;obtain⟨k,c,ng,rs,lo,hi,lz,ks⟩:=x;have hxv0:=hxv;obtain⟨ra,rc,ka,kc,rfl,hrs,hks⟩:=hxv.open_;have hb6:Below w2.heap.size w2 (w2.alloc (.cells #[.int .i64 k,.string ⟨(c).toArray⟩,.bool ng,.slice ra rs.length rc,.int .i64 lo,.int .i64 hi,.bool lz,.slice ka ks.length kc] 25)):=(Below.refl _ _).alloc (Dv _) _;have HRD6:=ab (hrd2.later hb6);have hg6:=jy hg2 (jz hb6 (some g));have HBY6:=ab ((hb6.block _ (jA hby2)).trans hby2);have hxv6:RxV _ (fun b=>w.heap.size+1≤b) _ _:=(hxv0.mono (S':=fun b=>w.heap.size+1≤b) fun b hb _=>by have:=hz1;omega).later hb6;have hz6:w.heap.size+1≤(w2.alloc (.cells #[.int .i64 k,.string ⟨(c).toArray⟩,.bool ng,.slice ra rs.length rc,.int .i64 lo,.int .i64 hi,.bool lz,.slice ka ks.length kc] 25)).heap.size:=by simp;have:=hz1;omega
 exact ai):p:=h
theorem eG {p:Prop} (h:p:=by
 obtain⟨x,r3⟩:=y;rw [hat] at hq;obtain⟨hq2,cc,rfl,hxv,hrd2⟩:=hq;have HR2:Hid (kz x r3=R):=ab iV;have HR:=HR2;have hg2:=jy hg2 hq2;have hby2:=jB HBY2.out hq2 fR;have hz2:=hq2.size;obtain⟨k,c,ng,rs,lo,hi,lz,ks⟩:=x;have hxv0:=hxv;obtain⟨ra,rc,ka,kc,rfl,hrs,hks⟩:=hxv.open_;have hb6:Below w2.heap.size w2 (w2.alloc (.cells #[.int .i64 k,.string ⟨(c).toArray⟩,.bool ng,.slice ra rs.length rc,.int .i64 lo,.int .i64 hi,.bool lz,.slice ka ks.length kc] 25)):=(Below.refl _ _).alloc (Dv _) _;have HRD6:=ab (hrd2.later hb6);have hg6:=jy hg2 (jz hb6 (some g));have HBY6:=ab ((hb6.block _ (jA hby2)).trans hby2);have hxv6:RxV _ (fun b=>w.heap.size+1≤b) _ _:=(hxv0.mono (S':=fun b=>w.heap.size+1≤b) fun b hb _=>by have:=hz2;omega).later hb6;have hz6:w.heap.size+1≤(w2.alloc (.cells #[.int .i64 k,.string ⟨(c).toArray⟩,.bool ng,.slice ra rs.length rc,.int .i64 lo,.int .i64 hi,.bool lz,.slice ka ks.length kc] 25)).heap.size:=by simp;have:=hz2;omega
 exact ai):p:=h
theorem eH {p:Prop} (h:p:=by
 have HT:=ab ht;cases hit:mh r with
 | none =>
  exact aS
 | some y =>
  obtain⟨c,nm,r1⟩:=y;obtain⟨i1,i2,i3,i4,i5⟩:=oJ hit hok;have HIT:=ab hit;have HI4:=ab i4;have HRL:=ab hrl;have HOWN:=ab hown;clear i4 hrl hown;by_cases hnm:nm=[]
  ·subst hnm
   cases ht2:jQ [45] r1 with
   | none =>
    exact ar
   | some r2 =>
    have er1:=ll ht2;subst er1;cases r2 with
    | nil =>
     exact av
    | cons c3 r3 =>
     by_cases h93:c3=[93]
     ·exact aj
     ·have ht3:jQ [93] (c3::r3)=none:=by rw [jQ,Du h93]
      have g93:(c3==[93])=false:=DV.2 h93;have g93':(c3 != [93])=true:=by simp [bne,g93]
      cases hit2:mh (c3::r3) with
      | none =>
       exact am
      | some y =>
       obtain⟨t,nm2,r4⟩:=y;obtain⟨j1,j2,j3,j4,j5⟩:=oJ hit2 i5.tail;have HIT2:=ab hit2;clear j4;by_cases hnm2:nm2=[]
       ·exact ag
       ·exact ap
  ·exact aN):p:=h
theorem eI {p:Prop} (h:p:=by
 refine TfV.mono (S:=fun b=>w.heap.size<b∧b<w3.heap.size) (fun b hb _=>by have h:w.heap.size<b∧b<w3.heap.size:=hb;omega) ?_;iterate 11 (refine TfV.keep (Kept.setLow _ (fun b hb=>by have h:w.heap.size<b∧b<w3.heap.size:=hb;simp;omega)) ?_)
 exact hT.keep (Kept.all ((Below.refl _ _).alloc (Dv _) _))):p:=h
theorem eJ {p:Prop} (h:p:=by
 refine DX (v:=.tuple #[.agg #[.int .i64 0,.int .i64 0,.int .i64 0,.string ⟨#[]⟩,.string ⟨#[]⟩],.int .i64 0,.bool false]) gF rfl ⟨?_,by rw [HE'.out];rfl⟩
 (repeat (first|with_reducible exact Below.refl _ _|with_reducible assumption|(refine Below.setCell ?_ gj _)|(refine Below.alloc ?_ fZ _)|(refine Below.drew ?_)))):p:=h
theorem eK {p:Prop} (h:p:=by
 go_wp2_with (go_at_call 26;refine HRD.out.mono ?_)
 rintro e w1 ⟨hb1,rfl⟩;have hb1w:Below w.heap.size w w1:=hb.trans (hb1.mono hB);have hB1:=hb1w.size;have hby1:=(hb1.block _ (jA HBY.out)).trans HBY.out;have z0:=fun o=>jC (jS hby1 o) 0 rfl
 have z1:=fun o=>jC (jS hby1 o) 1 rfl
 have z2:=fun o=>jC (jS hby1 o) 2 rfl
 have z3:=fun o=>jC (jS hby1 o) 3 rfl
 have z4:=fun o=>jC (jS hby1 o) 4 rfl
 have z5:=fun o=>jC (jS hby1 o) 5 rfl
 have z6:=fun o=>jC (jS hby1 o) 6 rfl
 have z7:=fun o=>jC (jS hby1 o) 7 rfl
 have z8:=fun o=>jC (jS hby1 o) 8 rfl
 have z9:=fun o=>jC (jS hby1 o) 9 rfl
 have z10:=fun o=>jC (jS hby1 o) 10 rfl
 have zf:=fun o=>oN (jS hby1 o)
 clear hby1 hby;unfold rxv0;go_wp2
 exact aB):p:=h
theorem eL {p:Prop} (h:p:=by
 refine⟨rfl,?_⟩;iterate 8 (refine RdE.setHi ?_ fS _)
 exact⟨_,HRD9.out⟩):p:=h
theorem eM {p:Prop} (h:p:=by
 have HR2:Hid (R=false):=ab gX;go_enter Tryz.func68,Tryz.ntmps68
 go_wp2_with (go_at_call 92;refine(lR _ HB.out).mono ?_;rintro e w1 ⟨rfl,hb1,hc1⟩;have hq7:=hc1 ⟨w.heap.size,7,none⟩ (.slice ka (ks.length+1) kc) fX)
 exact aZ):p:=h
theorem eN {p:Prop} (h:p:=by
 have:=HL.out;rw [DE];have hp:=HPL.out;rw [HPV.out] at hp;rw [Nat.succ_mul];omega):p:=h
theorem eO {p:Prop} (h:p:=by
 have z0:=jC hby0 0 rfl;have z1:=jC hby0 1 rfl;have z2:=jC hby0 2 rfl;have z3:=jC hby0 3 rfl;have z4:=jC hby0 4 rfl;have z5:=jC hby0 5 rfl;have z6:=jC hby0 6 rfl;have z7:=jC hby0 7 rfl;have z8:=jC hby0 8 rfl;have z9:=jC hby0 9 rfl;have z10:=jC hby0 10 rfl;have zf:=oN hby0;clear hby0;go_enter Tryz.func12,Tryz.ntmps12
 go_wp2
 exact aB):p:=h
theorem eP {p:Prop} (h:p:=by
 go_enter Tryz.func68,Tryz.ntmps68
 go_wp2_with (go_at_call 92;refine(lR _ HB.out).mono ?_;rintro e w1 ⟨rfl,hb1,hc1⟩;have hq7:=hc1 ⟨w.heap.size,7,none⟩ (.slice ka (0) kc) fX)
 exact aZ):p:=h
theorem eQ {p:Prop} (h:p:=by
 go_enter Tryz.func68,Tryz.ntmps68
 go_wp2_with (go_at_call 92;refine(lR _ HB.out).mono ?_;rintro e w1 ⟨rfl,hb1,hc1⟩;have hq7:=hc1 ⟨w.heap.size,7,none⟩ (.slice ka (1) kc) fX)
 exact aZ):p:=h
theorem eR {p:Prop} (h:p:=by
 rw [show i+1-1=i from rfl,Dt h2,h3] at hx;injection hx with hx;subst hx;first|exact HW.out|rfl):p:=h
theorem eS {p:Prop} (h:p:=by
 go_enter Tryz.func55,Tryz.ntmps55
 go_wp2_with (first|(go_at_call 80;refine(lw _ _ _ _ fR fR fX).mono ?_;rintro e w1 ⟨rfl,rfl⟩)|(go_at_call 79;refine(mV _ fR fR fR HN.out).mono ?_;rintro e w1 ⟨rfl,rfl⟩))
 exact aM):p:=h
theorem eT {p:Prop} (h:p:=by
 go_wp2
 go_roundw
 case rel=>exact⟨H+1,j,k,by go_num,rfl,by omega,by omega,by omega,by omega,hrq,hgq,HE2⟩
 case measure=>simp [intOf];omega):p:=h
theorem eU {p:Prop} (h:p:=by
 go_enter Tryz.func24,Tryz.ntmps24
 go_wp2_with (go_at_call 35;refine(jU B _ (acc) _ _ (hbl.alloc _) fS fS fS).mono ?_)
 exact bd):p:=h
theorem eV {p:Prop} (h:p:=by
 go_wp2
 go_roundw
 case rel=>exact⟨i,H,k,rfl,rfl,by omega,by omega,by omega,by omega,hrq,hgq,HE2⟩
 case measure=>simp [intOf];omega):p:=h
theorem eW {p:Prop} (h:p:=by
 iterate 8 (refine jJ ?_ fS _)
 exact hg1):p:=h
theorem eX {p:Prop} (h:p:=by
 exact(hb.alloc hB _).trans (hfr2.below fY (by simp;have:=hbl.le;omega))):p:=h
theorem eY {p:Prop} (h:p:=by
 refine⟨rfl,?_⟩;iterate 8 (refine RdE.setHi ?_ fS _)
 exact⟨_,HRD1.out⟩):p:=h
theorem eZ {p:Prop} (h:p:=by
 rw [Hr.out,D6,←HPV.out,←HR.out]):p:=h
theorem fb {p:Prop} (h:p:=by
 rw [show wq.heap.size=(wq).heap.size from by first|rfl|simp [World.setCell]];exact Sl.lit (n:=1) (sz:=2) (heap_alloc_new (wq) (.cells #[.string ⟨(c).toArray⟩,.string ⟨(c).toArray⟩] 62)) rfl):p:=h
theorem fg {p:Prop} (h:p:=by
 rw [HY.out];refine OwnX.app (ds:=[_]) (m:=1) HRV6.out (.cons (HCV6.out.mono fun b hb _=>?_) .nil) rfl ?_ hq7 hmv
 ·exact⟨by omega,fun e=>by have:=(hlta b e).2;omega⟩
 ·simpa using ho7):p:=h
theorem fi {p:Prop} (h:p:=by
 have HR2:Hid (Except.error q=R):=ab iV;have HR:=HR2;have hg2:=jy hg1 hq2;have hby2:=jB HBY1.out hq2 fR;exact aA):p:=h
theorem fj {p:Prop} (h:p:=by
 have HR2:Hid (Except.error q=R):=ab iV;have HR:=HR2;have hg2:=jy hg2 hq2;have hby2:=jB HBY2.out hq2 fR;exact aA):p:=h
theorem fo {p:Prop} (h:p:=by
 iterate 8 (refine RdT.setHi ?_ fS _)
 exact HRD1.out):p:=h
theorem fp {p:Prop} (h:p:=by
 have he:List.isEmpty (p)=true:=by simp [hp0]
 have HP0:=ab hp0;clear hp0;exact ay):p:=h
theorem fq {p:Prop} (h:p:=by
 iterate 8 (refine Below.setCell ?_ fX _)
 exact hbw1):p:=h
theorem fw {p:Prop} (h:p:=by
 simp only at hkind;subst hkind
 have HPV:Hid (mv ps ⟨0,(fn:Int),cse,thn,els⟩=thn):=ab ig;exact aK):p:=h
theorem fx {p:Prop} (h:p:=by
 obtain⟨i,j,k,rfl,rfl,hi,hij,hj,hk,hro,hg,HF⟩:=hrel;clear HT HRO;by_cases hlt:i<j
 ·exact ae
 ·have hij2:T=i:=by
   exact aX
  exact bI):p:=h
theorem fy {p:Prop} (h:p:=by
 obtain⟨i,j,k,rfl,rfl,hi,hij,hj,hk,hro,hg,HF⟩:=hrel;clear HT HRO;by_cases hlt:i<j
 ·exact ae
 ·have hij2:T=i:=by
   exact aX
  exact cI):p:=h
theorem fz {p:Prop} (h:p:=by
 go_wp2_with (go_at_call 80;refine(lw _ _ _ _ fR fR fX).mono ?_;rintro e w1 ⟨rfl,rfl⟩)
 exact aM):p:=h
theorem fA {p:Prop} (h:p:=by
 injection h with h;injection h with _ h;subst h;simp at *;omega):p:=h
theorem fB {p:Prop} (h:p:=by
 refine⟨rfl,?_⟩;iterate 8 (refine RdE.setHi ?_ fS _)
 exact⟨_,HRD6.out⟩):p:=h
theorem fC {p:Prop} (h:p:=by
 rw [DE,show jN (rows++[(c,c)])=jN rows++jN [(c,c)] from by simp [jN]];exact hown7):p:=h
theorem fD {p:Prop} (h:p:=by
 refine⟨by simp;try omega,by simp;try omega,j+1,by omega,by omega,(kh HJ3.out).2.2,by simp⟩):p:=h
theorem fE {p:Prop} (h:p:=by
 go_wp2_with (go_at_call 28;refine(kB _ HIX.out).mono ?_;rintro e w4 ⟨rfl,rfl⟩)
 exact aB):p:=h
theorem fF {p:Prop} (h:p:=by
 have h:=DQ List.length HE.out;simp only [DE,rowS] at h;split<;>simp_all<;>omega):p:=h
theorem fG {p:Prop} (h:p:=by
 refine jF fW fW ?_;repeat (go_big_quiet_step ((fail)))
 exact cu):p:=h
theorem fH {p:Prop} (h:p:=by
 go_wp2
 go_ret
 exact⟨jG HE.out.symm,(hb.alloc hB _).trans (xq.ext.mono fY)⟩):p:=h
theorem fI {p:Prop} (h:p:=by
 have he:List.isEmpty (p)=false:=by simpa using hp0
 have HP0:=ab hp0;clear hp0;exact aK):p:=h
theorem fJ {p:Prop} (h:p:=by
 first|omega|(simp;done)|(simp;omega)):p:=h
theorem fK {p:Prop} (h:p:=by
 exact(hg1.block _ (jA HBY.out) (lm hown HBY.out fU).symm).trans HBY.out):p:=h
theorem fL {p:Prop} (h:p:=by
 iterate 8 (refine Below.setCell ?_ fS _)
 exact hbl7):p:=h
theorem fM {p:Prop} (h:p:=by
 clear HF2;go_wp2
 go_ret2
 exact⟨hg,by rw [←HF3.out];exact⟨⟨_,rfl⟩,_,HRD.out⟩⟩):p:=h
theorem fN {p:Prop} (h:p:=by
 iterate 8 (refine jJ ?_ fS _)
 exact hg8):p:=h
theorem fO {p:Prop} (h:p:=by
 simp only [hpm] at h;cases h):p:=h
theorem fP {p:Prop} (h:p:=by
 have hc9:0≤cv:=fR;have HE2:=ab ((Du hc0).symm.trans HF2.out);clear hc0;simp only [hc0',Bool.not_false];exact eT):p:=h
theorem fQ {p:Prop} (h:p:=by
 have HE2:=ab ((Dr hc0).symm.trans HF2.out);simp only [hc0',Bool.not_true];exact eV):p:=h
end Go.Proofs.YtjggmmaojklmpaaGreatDoor
