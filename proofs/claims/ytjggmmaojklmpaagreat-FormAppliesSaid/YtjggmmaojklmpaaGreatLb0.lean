/- Closing steps that recur, each as a theorem whose argument is found by them. -/
import Derived.WalkLawsBesides
import Derived.WalkSpells
import Derived.BigQuiet
import Derived.Deep.DeepCutAuto
import Derived.Lib.Hide
import Derived.Deep.RegionLaw
set_option maxRecDepth 100000
namespace Go.Proofs.YtjggmmaojklmpaaGreat
open Go.RowKit
theorem ab {p:Prop} (h:p):RowKit.Hid p:=Lib.hid h
abbrev Ch:=@Bool.and_true
abbrev Ci:=@beq_iff_eq
abbrev Cj:=@decide_eq_true_eq
abbrev Ck:=@UInt8.toNat_inj
abbrev Cl:=@if_pos
abbrev Cm:=@List.eq_nil_of_length_eq_zero
abbrev Cn:=@List.getElem?_eq_getElem
abbrev Co:=@if_neg
abbrev Cp:=@Nat.le_refl
abbrev Cq:=@List.getElem?_eq_some_iff
abbrev Cr:=@List.length_cons
abbrev Cs:=@Bool.and_eq_true
abbrev Ct:=@Nat.le_trans
abbrev Cu:=@Nat.lt_of_lt_of_le
abbrev Cv:=@Lib.cell_of_heap
abbrev Cw:=@List.map_cons
abbrev Cx:=@List.flatMap_cons
abbrev Cy:=@List.length_append
abbrev Cz:=@List.mem_cons
abbrev CA:=@List.getElem?_append_left
abbrev CB:=@List.mem_cons_self
abbrev CC:=@List.mem_cons_of_mem
abbrev CD:=@List.getElem?_append_right
abbrev CE:=@Bool.true_and
abbrev CF:=@List.mem_of_getElem?
abbrev CG:=@Bool.or_eq_true
abbrev CH:=@List.not_mem_nil
abbrev CI:=@List.mem_append
abbrev CJ:=@bodyPost_ret
abbrev CK:=@List.length_take
abbrev CL:=@World.size_alloc
abbrev CM:=@beq_eq_false_iff_ne
abbrev CN:=@List.foldl_cons
abbrev CO:=@decide_eq_true
abbrev CP:=@decide_eq_false
abbrev CQ:=@List.takeWhile_append_dropWhile
abbrev CR:=@congrArg
abbrev CS:=@List.length_drop
abbrev CT:=@List.nil_append
abbrev CU:=@List.append_assoc
abbrev CV:=@List.mem_singleton
abbrev CW:=@List.length_nil
abbrev CX:=@List.length_map
abbrev CY:=@Nat.add_assoc
abbrev CZ:=@List.cons_append
abbrev C0:=@List.drop_zero
abbrev C1:=@Bool.false_eq_true
abbrev C2:=@List.append_nil
abbrev C3:=@List.suffix_cons
abbrev C4:=@List.suffix_refl
theorem gu {p:Prop} (h:p:=by omega):p:=h
theorem gv {p:Prop} (h:p:=by rw [hc1 _ _ (by first|(simp;done)|(simp;omega))];simp):p:=h
theorem gz {p:Prop} (h:p:=by first|omega|(simp;done)|(simp;omega)):p:=h
theorem gC {p:Prop} (h:p:=by first|(simp;done)|(simp;omega)):p:=h
theorem gD {p:Prop} (h:p:=by decide):p:=h
theorem gE {p:Prop} (h:p:=by kernel_rfl):p:=h
theorem gF {p:Prop} (h:p:=by simp):p:=h
theorem gG {p:Prop} (h:p:=by simp [Value.oneCell']):p:=h
theorem gH {p:Prop} (h:p:=by simp;omega):p:=h
theorem gI {p:Prop} (h:p:=by rw [hW1];have:=heap_alloc_new (w.alloc (.cells #[.int .i64 xk,.string ⟨(c).toArray⟩,.bool ng,.slice ra rs.length rc,.int .i64 lo,.int .i64 xh,.bool lz,.slice ka ks.length kc] 25)) (.cells #[.int .i64 0,.int .i64 0,.slice none 0 0] 60);simpa using this):p:=h
theorem gJ {p:Prop} (h:p:=by first|(simp;done)|(simp;omega)|omega):p:=h
theorem gK {p:Prop} (h:p:=by simp [World.setCell];omega):p:=h
theorem gL {p:Prop} (h:p:=by simp [results,Tryz.results114,go_sem,f0,f1,f2,f3,f4,f5,f6,f7]):p:=h
theorem gM {p:Prop} (h:p:=by simp only [lg];rw [HPO.out];simp):p:=h
theorem gN {p:Prop} (h:p:=by simp [results,Tryz.results141,go_sem,f0,f1,f2,f3,f4,f5,f6,f7]):p:=h
theorem gO {p:Prop} (h:p:=by first|(simp;done)|omega):p:=h
theorem gP {p:Prop} (h:p:=by simp [results,Tryz.results140,go_sem,f0,f1,f2,f3,f4,f5,f6,f7]):p:=h
theorem gQ {p:Prop} (h:p:=by simp [results,Tryz.results77,go_sem,f0,f1,f2,f3,f4,f5,f6,f7]):p:=h
theorem gR {p:Prop} (h:p:=by rw [show b=w.heap.size from e];exact Nat.lt_irrefl _):p:=h
theorem gS {p:Prop} (h:p:=by rw [Hr.out,HQ.out];clear HQ HK HSl Hr HP c0 c1 c2 c3 c4;(try unfold mayF ly);simp;first|done|omega|(simp_all;done)|(simp_all;omega)):p:=h
theorem gT {p:Prop} (h:p:=by simp [results,Tryz.results113,go_sem,f0,f1,f2,f3,f4,f5,f6,f7]):p:=h
theorem gU {p:Prop} (h:p:=by simpa using hd):p:=h
theorem gV {p:Prop} (h:p:=by rw [show ((i:Int)+1).toNat=i+1 by omega,Hr.out];exact hU):p:=h
theorem gW {p:Prop} (h:p:=by simp [results,Tryz.results80,go_sem,z0,z1,z2,z3,z4]):p:=h
theorem gX {p:Prop} (h:p:=by simp [results,Tryz.results23,go_sem,f0,f1,f2,f3,f4,f5,f6,f7]):p:=h
theorem gY {p:Prop} (h:p:=by rw [←HF.out,hd];rfl):p:=h
theorem gZ {p:Prop} (h:p:=by first|rfl|simp):p:=h
theorem hJ {p:Prop} (h:p:=by simp [results,Tryz.results9,go_sem,z0,z1,z2,z3,z4,z5,z6,z7,z8,z9,z10]):p:=h
theorem hZ {p:Prop} (h:p:=by rw [hW1,Below.heap_alloc _ _ _ (by simp)];exact heap_alloc_new w _):p:=h
theorem ic {p:Prop} (h:p:=by rw [←HR.out];simp only [qN,ht]):p:=h
theorem ie {p:Prop} (h:p:=by simp only [lg];rw [HPO.out];simp [hp0]):p:=h
theorem ig {p:Prop} (h:p:=by simp [results,Tryz.results139,go_sem,f0,f1,f2,f3,f4,f5,f6,f7]):p:=h
theorem ii {p:Prop} (h:p:=by rw [CM];omega):p:=h
theorem ij {p:Prop} (h:p:=by rw [←hd];exact HF.out):p:=h
theorem ik {p:Prop} (h:p:=by simpa using h):p:=h
theorem il {p:Prop} (h:p:=by first|exact hbl.alloc _|exact(hbl.alloc _).below hb1):p:=h
theorem io {p:Prop} (h:p:=by rw [show k=w.heap.size from e];exact Nat.lt_irrefl _):p:=h
theorem iq {p:Prop} (h:p:=by rw [Cb];rfl):p:=h
theorem it {p:Prop} (h:p:=by rw [HR.out];rfl):p:=h
theorem iv {p:Prop} (h:p:=by first|omega|(simp;done)):p:=h
theorem iw {p:Prop} (h:p:=by rw [ho];decide):p:=h
theorem iy {p:Prop} (h:p:=by simp [results,Tryz.results76,go_sem,f0,f1,f2,f3,f4,f5,f6,f7]):p:=h
theorem iz {p:Prop} (h:p:=by simp [results,Tryz.results75,go_sem,f0,f1,f2,f3,f4,f5,f6,f7]):p:=h
theorem iA {p:Prop} (h:p:=by rw [HS.out,hbv];rfl):p:=h
theorem iB {p:Prop} (h:p:=by simp only [lg];rw [HPO.out];rfl):p:=h
theorem iC {p:Prop} (h:p:=by first|omega|(simp;omega)):p:=h
theorem iD {p:Prop} (h:p:=by rw [Ci];omega):p:=h
theorem iE {p:Prop} (h:p:=by rw [hW0];exact heap_alloc_new w _):p:=h
theorem iF {p:Prop} (h:p:=by rw [show (kQ X fd false s z).2.out=(mV X fd s z).2.out from rfl,h2];decide):p:=h
theorem iG {p:Prop} (h:p:=by have:=Rx.parts_mem hy;omega):p:=h
theorem iH {p:Prop} (h:p:=by simp [hd]):p:=h
theorem iI {p:Prop} (h:p:=by rw [←hR];simp only [escM,hn,hbig,hpm]):p:=h
theorem iJ {p:Prop} (h:p:=by rw [←HR.out,←HF2.out]):p:=h
theorem iK {p:Prop} (h:p:=by rw [Cy];omega):p:=h
theorem iL {p:Prop} (h:p:=by rw [HE.out];cases p<;>cases ng<;>rfl):p:=h
theorem iN {p:Prop} (h:p:=by rw [HE0.out,Nat.add_sub_cancel,hd,hu];simp [hn]):p:=h
theorem iO {p:Prop} (h:p:=by rw [←HF.out,hd];simp only [ls];rw [hw];rfl):p:=h
theorem iP {p:Prop} (h:p:=by rw [←HS.out,hd,show s.drop (j+2)=r2 from Hkr.out];simp [rxSp,c92,d47]):p:=h
theorem iQ {p:Prop} (h:p:=by rw [HE0.out,Nat.add_sub_cancel,hd,←hkn];simp):p:=h
theorem iR {p:Prop} (h:p:=by simp [results,Tryz.results139,go_sem,f0,f1,f2,f3,f4,f5,f6,f7,hlt9]):p:=h
theorem iS {p:Prop} (h:p:=by have:=HB1.out.size;have:=HB2.out.size;omega):p:=h
theorem iT {p:Prop} (h:p:=by simp only [maxLen,Be];omega):p:=h
theorem iU {p:Prop} (h:p:=by rw [rx_size];rfl):p:=h
theorem iV {p:Prop} (h:p:=by rw [←HR.out];unfold wi;simp only [hpr]):p:=h
theorem iW {p:Prop} (h:p:=by rw [hc2 _ _ (by simp [World.setCell];omega)];simp [go_sem,z0]):p:=h
theorem iX {p:Prop} (h:p:=by rw [hc2 _ _ (by simp [World.setCell];omega)];simp [go_sem,z1]):p:=h
theorem iY {p:Prop} (h:p:=by rw [hc2 _ _ (by simp [World.setCell];omega)];simp [go_sem,z2]):p:=h
theorem iZ {p:Prop} (h:p:=by rw [hc2 _ _ (by simp [World.setCell];omega)];simp [go_sem,z3]):p:=h
theorem i0 {p:Prop} (h:p:=by rw [hc2 _ _ (by simp [World.setCell];omega)];simp [go_sem,z4]):p:=h
theorem i6 {p:Prop} (h:p:=by rw [hc2 _ _ (by simp [World.setCell];omega)];simp [go_sem,y0]):p:=h
theorem i7 {p:Prop} (h:p:=by rw [hc2 _ _ (by simp [World.setCell];omega)];simp [go_sem,y1]):p:=h
theorem i9 {p:Prop} (h:p:=by rw [hc2 _ _ (by simp [World.setCell];omega)];simp [go_sem,y2]):p:=h
theorem ja {p:Prop} (h:p:=by rw [hc2 _ _ (by simp [World.setCell];omega)];simp [go_sem,y3]):p:=h
theorem jb {p:Prop} (h:p:=by rw [hc2 _ _ (by simp [World.setCell];omega)];simp [go_sem,y4]):p:=h
theorem jc {p:Prop} (h:p:=by simp [results,Tryz.results45,go_sem,f0,f1,f2,f3,f4,f5,f6,f7]):p:=h
theorem jd {p:Prop} (h:p:=by rw [HP.out];exact hm):p:=h
theorem je {p:Prop} (h:p:=by rw [←HF.out];simp only [lc,ht,hit,ht2,ht3,hit2,hlt];simp):p:=h
theorem jf {p:Prop} (h:p:=by rw [←HR.out];unfold hasS;rw [hp];cases p<;>cases ng<;>rfl):p:=h
theorem jg {p:Prop} (h:p:=by rw [show ((j:Int)+1).toNat=j+1 by omega,HJ.out];exact hV):p:=h
theorem jh {p:Prop} (h:p:=by rw [show ((i:Int)+1).toNat=i+1 by omega,Hr.out];exact hM):p:=h
theorem ji {p:Prop} (h:p:=by rw [show ((j:Int)+1).toNat=j+1 by omega,Hr.out];exact hP):p:=h
theorem jk {p:Prop} (h:p:=by rw [←HR.out];simp only [hat]):p:=h
theorem jl {p:Prop} (h:p:=by rw [HE.out,←hF2];cases bb<;>simp [Bool.and_comm]<;>rfl):p:=h
theorem jm {p:Prop} (h:p:=by simp [results,Tryz.results48,go_sem]):p:=h
theorem jn {p:Prop} (h:p:=by rw [hW6];exact(Below.refl _ _).drew):p:=h
theorem jo {p:Prop} (h:p:=by simp [results,Tryz.results80,go_sem,x0,x1,x2,x3,x4]):p:=h
theorem jp {p:Prop} (h:p:=by simp [results,Tryz.results48,go_sem,z0,z1,z2,z3,z4]):p:=h
theorem jr {p:Prop} (h:p:=by simp only [Be];omega):p:=h
theorem js {p:Prop} (h:p:=by have:=hb1.size;simp at this;omega):p:=h
theorem jt {p:Prop} (h:p:=by simp [Region.wanted,hgd]):p:=h
theorem ju {p:Prop} (h:p:=by first|(simp;omega)|omega):p:=h
theorem jv {p:Prop} (h:p:=by have:=HTF.out;simp;omega):p:=h
theorem jw {p:Prop} (h:p:=by rw [←HR.out];simp only [hpr,ht]):p:=h
theorem jx {p:Prop} (h:p:=by simp [maxLen]):p:=h
theorem jy {p:Prop} (h:p:=by rw [←HF.out,hd]):p:=h
theorem jz {p:Prop} (h:p:=by simp [nxc,rxc,nx0]):p:=h
theorem jA {p:Prop} (h:p:=by simp [World.cell?,hb,nxc,rxc]):p:=h
theorem jB {p:Prop} (h:p:=by rw [HM.out,hd,hbt];simp [hkl]):p:=h
theorem jC {p:Prop} (h:p:=by rw [HE.out,hU]):p:=h
theorem jD {p:Prop} (h:p:=by rw [HRE.out];exact Cl h2):p:=h
theorem jE {p:Prop} (h:p:=by rw [CL];omega):p:=h
theorem jF {p:Prop} (h:p:=by simp [World.setCell]):p:=h
theorem jG {p:Prop} (h:p:=by rw [HE5.out,hfl]):p:=h
theorem jH {p:Prop} (h:p:=by rw [hw0];simp):p:=h
theorem jI {p:Prop} (h:p:=by simpa [Rx.groups] using hg):p:=h
theorem jJ {p:Prop} (h:p:=by rw [HE0.out,hd];simp [hn]):p:=h
theorem jK {p:Prop} (h:p:=by rw [Hr.out];exact HE3.out):p:=h
theorem jL {p:Prop} (h:p:=by rw [←HR.out,hres]):p:=h
theorem ae {p:Prop} (h:p:=by
 obtain⟨k,rfl⟩:∃k',k=k'+1:=⟨k-1,by omega⟩;obtain⟨H,hH⟩:∃H,(i+j) / 2=H:=⟨_,rfl⟩;have hH2:((i:Int)+j) / 2=(H:Int):=gu;have hHb:i≤H∧H<j:=gu;obtain⟨K,hK⟩:∃K,M+m-1-H=K:=⟨_,rfl⟩;have hK2:(M:Int)+m-1-H=(K:Int):=gu;have hKN:K<N:=gu;obtain⟨x,hx⟩:∃x,rs[K]?=some x:=⟨_,Cn gu⟩;obtain⟨y,hy⟩:∃y,rs[H]?=some y:=⟨_,Cn gu⟩;obtain⟨c1,c2⟩:=hro.at_ hx;obtain⟨c3,c4⟩:=hro.at_ hy;obtain⟨x1,x2⟩:=x;obtain⟨y1,y2⟩:=y;obtain⟨cv,hcv⟩:∃cv,cmpR (x1,x2) (y1,y2)=cv:=⟨_,rfl⟩;have HCV:Hid (∀w:World,Calls Tryz.prog 186 #[.agg #[.string ⟨(x1).toArray⟩,.string ⟨(x2).toArray⟩],.agg #[.string ⟨(y1).toArray⟩,.string ⟨(y2).toArray⟩]] w fun e w'=>e=.returned (.int .i64 cv)∧Below w.heap.size w w'):=ab (fun w=>by
  rw [←hcv];exact qY (x1,x2) (y1,y2) w)
 have d1:∀x:ExtOf wr,x.val.cell? ⟨g,(K)*2,none⟩=some (.string ⟨(x1).toArray⟩):=ExtOf.cell c1;have d2:∀x:ExtOf wr,x.val.cell? ⟨g,(K)*2+1,none⟩=some (.string ⟨(x2).toArray⟩):=ExtOf.cell c2;have d3:∀x:ExtOf wr,x.val.cell? ⟨g,(H)*2,none⟩=some (.string ⟨(y1).toArray⟩):=ExtOf.cell c3;have d4:∀x:ExtOf wr,x.val.cell? ⟨g,(H)*2+1,none⟩=some (.string ⟨(y2).toArray⟩):=ExtOf.cell c4;have HX:=ab hx;have HY:=ab hy;have HROJ:=ab hro;clear hx hy c1 c2 c3 c4;have HF2:Hid ((if cv<0 then bs (fun c=>!ltAt rs (M+m-1-c) c) k i H else bs (fun c=>!ltAt rs (M+m-1-c) c) k (H+1) j)=T):=ab (by
  have hp:(!ltAt rs (M+m-1-H) H)=!decide (cv<0):=by rw [hK,tU HX.out HY.out,hcv]
  rw [←HF.out];simp only [bs,hlt,if_true,hH,hp];by_cases hc:cv<0<;>simp [hc])
 clear hcv hH hK HF hro;go_wp2
 refine jS gE gE ?_;repeat (go_big_quiet_step ((go_at_call 186;exact ku (HCV.out _))))
 refine wpQuiet_nil ?_;rintro _ ⟨xq,rfl⟩;have hrq:RO xq.val B g cap rs:=jZ HROJ.out xq.ext;have hgq:=mR hg xq.ext;clear d1 d2 d3 d4;by_cases hc0:cv<0
 ·have hc0':decide (cv<0)=true:=CO hc0
  exact gp
 ·have hc0':decide (cv<0)=false:=CP hc0
  exact gl):p:=h
theorem ag {p:Prop} (h:p:=by
 subst hnm2;cases hlt:Op.bytesLess t c with
 | true =>
  have HF2:Hid (none=R0):=ab je;have HR2:Hid (Except.error 10=R):=ab iJ;clear HR;have HR:=HR2;clear HF ht hit hrd hok ht2 ht3 hit2 h93;go_wp2_with (go_at_call 143;refine(kj _ HRD.out HT.out gF).mono ?_)
  rintro e w3 ⟨rfl,hrd3,hq3⟩;have hgr3:=jM hg hq3;have hown3:=kq HOWN.out hq3 gu;have HRD3:=ab hrd3;clear hrd3 hq3;go_wp2_with (go_at_call 165;refine(lF _ HRD3.out).mono ?_)
  rintro e w4 hq;have hq4:=hq.1;have hqe:=hq.2;rw [HIT.out] at hqe;obtain⟨hrd4,hqe⟩:=hqe;rcases hqe with⟨_,rfl⟩|⟨q,_⟩
  case inr=>exact absurd rfl q
  have hgr4:=jM hgr3 hq4;have hown4:=kq hown3 hq4 gu;have hlt4:=hown4.lt;obtain⟨va,vc,rfl⟩:=j7 hown4;have hz4:=hgr4.size;obtain⟨w5,hw5⟩:∃w5,w5=w4.alloc (.cells #[.string ⟨(c).toArray⟩,.string ⟨(c).toArray⟩] 72):=⟨_,rfl⟩;obtain⟨hb5,hz5e,hbr5⟩:=kB w4 hw5;have hz5:w4.heap.size+1≤w5.heap.size:=gu;have HOWN5:=ab (jZ hown4 hb5);have HRD5:=ab (hrd4.later hb5);have HBR5:=ab hbr5;have hgr5:=jM hgr4 (jN hb5 (some g));clear hq hq4 hrd4 hown3 hown4 hz5e hbr5 HRD3;obtain⟨ir,hir⟩:=info_parts mm;go_upto_region 10 with fail
  rw [←hw5];clear hw5;obtain⟨lb,lo,lk,li,ln,l0,l1,l2,l3,l4⟩:=HRD5.out.look1;have HSEE:Hid (∀x:ExtOf w5,Calls Tryz.prog 46 #[.pointer (some ⟨g,0,none⟩)] x.val fun e w'=>e=.returned (.string ⟨(([45]:Str)).toArray⟩)∧Below x.val.heap.size x.val w'):=ab fun x=>(kH _ (HRD5.out.later x.ext)).mono fun _ _ ⟨h1,h2⟩=>⟨by rw [h1];rfl,h2.below _⟩
  have d0:∀x:ExtOf w5,x.val.cell? ⟨g,0,none⟩=some (.slice (some ⟨lb,lo,none⟩) ln lk):=ExtOf.cell l0;have d1:∀x:ExtOf w5,x.val.cell? ⟨g,1,none⟩=some (.int .i64 li):=ExtOf.cell l1;have d2:∀x:ExtOf w5,x.val.cell? ⟨lb,lo+(li+1),none⟩=some (.string ⟨(c3).toArray⟩):=ExtOf.cell l4;have gg:decide (ln≤li+1)=false:=by simp;omega
  have gg2:decide ((ln:Int)≤(li:Int)+1)=false:=by simp;omega
  have gn:((li:Int)+1).toNat=li+1:=gu;have gn0:(0:Int)≤(li:Int)+1:=gu;have gn1:(li:Int)+1<(ln:Int):=gu;have gw:IntKind.i64.wrap ((li:Int)+1)=(li:Int)+1:=IntWalk.i64_in _ gu;clear l0 l1 l4;refine jS gE gE ?_;repeat (go_big_quiet_step ((go_at_call 46;exact ku (HSEE.out _))))
  refine wpQuiet_nil ?_;rintro _ ⟨xq,rfl⟩;clear d0 d1 d2 gg gg2 gn gn0 gn1 gw;have hbyq:=(xq.ext.block _ (jO (jQ HBY2.out hgr5 gu))).trans (jQ HBY2.out hgr5 gu);have hrowq:=(xq.ext.block _ (jO HBR5.out)).trans HBR5.out;have hownq:=jZ HOWN5.out xq.ext;have hrdq:=HRD5.out.later xq.ext;have hgrq:=jM hgr5 (jN xq.ext (some g));generalize xq.val=wq at *
  clear HSEE;obtain⟨i,hi9,c1,hf,hr6⟩:=hrdq.step;have HRD6:=ab hr6;have hgr6:=j9 hgrq 1 (.int .i64 ((i:Int)+1));have HBYQ:=ab (kg hbyq (a:=⟨g,1,none⟩) gz (.int .i64 ((i:Int)+1)));have HROWQ:=ab (kg hrowq (a:=⟨g,1,none⟩) gz (.int .i64 ((i:Int)+1)));have HOWNQ:=ab (ny hownq (a:=⟨g,1,none⟩) gz (.int .i64 ((i:Int)+1)));clear hrdq hr6 hbyq hrowq hownq hgrq;go_wp2_with (go_at_call 165;refine(lF _ HRD6.out).mono ?_)
  rintro e w7 hq;have hq7:=hq.1;have hqe:=hq.2;rw [HIT2.out] at hqe;have hgr7:=jM hgr6 hq7;have hgw7:=jM hg2 hgr7;have hby7:=jQ HBYQ.out hq7 gu;have hrow7:=jQ HROWQ.out hq7 gu;have hown7:=kq HOWNQ.out hq7 gu;obtain⟨f0,f1,f2,f3,f4,f5,f6,f7,f8⟩:=jR (c:=[]) hby7;obtain⟨hrd7,hqe⟩:=hqe;rcases hqe with⟨_,rfl⟩|⟨q,_⟩
  case inr=>exact absurd rfl q
  have HRD9:=ab hrd7;clear hq hq7 hby7 hrow7 hown7 hrd7;go_wp2
  refine CJ (v:=.tuple #[.agg #[.int .i64 0,.string ⟨([]).toArray⟩,.bool false,.slice none 0 0,.int .i64 0,.int .i64 0,.bool false,.slice none 0 0],.int .i64 10]) gP rfl ?_;refine⟨?_,?_⟩
  ·iterate 8 (refine jW ?_ gz _)
   exact hgw7
  ·rw [←HR.out]
   exact eV
 | false =>
  have HF2:Hid (lc n (rows++[(c,t)]) r4=R0):=ab je;clear HF ht hit hrd hok ht2 ht3 hit2 h93;go_wp2_with (go_at_call 143;refine(kj _ HRD.out HT.out gF).mono ?_)
  rintro e w3 ⟨rfl,hrd3,hq3⟩;have hgr3:=jM hg hq3;have hown3:=kq HOWN.out hq3 gu;have HRD3:=ab hrd3;clear hrd3 hq3;go_wp2_with (go_at_call 165;refine(lF _ HRD3.out).mono ?_)
  rintro e w4 hq;have hq4:=hq.1;have hqe:=hq.2;rw [HIT.out] at hqe;obtain⟨hrd4,hqe⟩:=hqe;rcases hqe with⟨_,rfl⟩|⟨q,_⟩
  case inr=>exact absurd rfl q
  have hgr4:=jM hgr3 hq4;have hown4:=kq hown3 hq4 gu;have hlt4:=hown4.lt;obtain⟨va,vc,rfl⟩:=j7 hown4;have hz4:=hgr4.size;obtain⟨w5,hw5⟩:∃w5,w5=w4.alloc (.cells #[.string ⟨(c).toArray⟩,.string ⟨(c).toArray⟩] 72):=⟨_,rfl⟩;obtain⟨hb5,hz5e,hbr5⟩:=kB w4 hw5;have hz5:w4.heap.size+1≤w5.heap.size:=gu;have HOWN5:=ab (jZ hown4 hb5);have HRD5:=ab (hrd4.later hb5);have HBR5:=ab hbr5;have hgr5:=jM hgr4 (jN hb5 (some g));clear hq hq4 hrd4 hown3 hown4 hz5e hbr5 HRD3;obtain⟨ir,hir⟩:=info_parts mm;go_upto_region 10 with fail
  rw [←hw5];clear hw5;obtain⟨lb,lo,lk,li,ln,l0,l1,l2,l3,l4⟩:=HRD5.out.look1;have HSEE:Hid (∀x:ExtOf w5,Calls Tryz.prog 46 #[.pointer (some ⟨g,0,none⟩)] x.val fun e w'=>e=.returned (.string ⟨(([45]:Str)).toArray⟩)∧Below x.val.heap.size x.val w'):=ab fun x=>(kH _ (HRD5.out.later x.ext)).mono fun _ _ ⟨h1,h2⟩=>⟨by rw [h1];rfl,h2.below _⟩
  have d0:∀x:ExtOf w5,x.val.cell? ⟨g,0,none⟩=some (.slice (some ⟨lb,lo,none⟩) ln lk):=ExtOf.cell l0;have d1:∀x:ExtOf w5,x.val.cell? ⟨g,1,none⟩=some (.int .i64 li):=ExtOf.cell l1;have d2:∀x:ExtOf w5,x.val.cell? ⟨lb,lo+(li+1),none⟩=some (.string ⟨(c3).toArray⟩):=ExtOf.cell l4;have gg:decide (ln≤li+1)=false:=by simp;omega
  have gg2:decide ((ln:Int)≤(li:Int)+1)=false:=by simp;omega
  have gn:((li:Int)+1).toNat=li+1:=gu;have gn0:(0:Int)≤(li:Int)+1:=gu;have gn1:(li:Int)+1<(ln:Int):=gu;have gw:IntKind.i64.wrap ((li:Int)+1)=(li:Int)+1:=IntWalk.i64_in _ gu;clear l0 l1 l4;refine jS gE gE ?_;repeat (go_big_quiet_step ((go_at_call 46;exact ku (HSEE.out _))))
  refine wpQuiet_nil ?_;rintro _ ⟨xq,rfl⟩;clear d0 d1 d2 gg gg2 gn gn0 gn1 gw;have hbyq:=(xq.ext.block _ (jO (jQ HBY2.out hgr5 gu))).trans (jQ HBY2.out hgr5 gu);have hrowq:=(xq.ext.block _ (jO HBR5.out)).trans HBR5.out;have hownq:=jZ HOWN5.out xq.ext;have hrdq:=HRD5.out.later xq.ext;have hgrq:=jM hgr5 (jN xq.ext (some g));generalize xq.val=wq at *
  clear HSEE;obtain⟨i,hi9,c1,hf,hr6⟩:=hrdq.step;have HRD6:=ab hr6;have hgr6:=j9 hgrq 1 (.int .i64 ((i:Int)+1));have HBYQ:=ab (kg hbyq (a:=⟨g,1,none⟩) gz (.int .i64 ((i:Int)+1)));have HROWQ:=ab (kg hrowq (a:=⟨g,1,none⟩) gz (.int .i64 ((i:Int)+1)));have HOWNQ:=ab (ny hownq (a:=⟨g,1,none⟩) gz (.int .i64 ((i:Int)+1)));clear hrdq hr6 hbyq hrowq hownq hgrq;go_wp2_with (go_at_call 165;refine(lF _ HRD6.out).mono ?_)
  rintro e w7 hq;have hq7:=hq.1;have hqe:=hq.2;rw [HIT2.out] at hqe;have hgr7:=jM hgr6 hq7;have hgw7:=jM hg2 hgr7;have hby7:=jQ HBYQ.out hq7 gu;have hrow7:=jQ HROWQ.out hq7 gu;have hown7:=kq HOWNQ.out hq7 gu;obtain⟨f0,f1,f2,f3,f4,f5,f6,f7,f8⟩:=jR (c:=[]) hby7;obtain⟨hrd7,hqe⟩:=hqe;rcases hqe with⟨_,rfl⟩|⟨q,_⟩
  case inr=>exact absurd rfl q
  have hrc7:w7.cell? ⟨w4.heap.size,1,none⟩=some (.string ⟨(c).toArray⟩):=by rw [Cv hrow7];rfl
  have hrc70:w7.cell? ⟨w4.heap.size,0,none⟩=some (.string ⟨(c).toArray⟩):=by rw [Cv hrow7];rfl
  have hfr7:w7.frozen? ⟨w4.heap.size,1,none⟩=false:=by unfold World.frozen?;rw [hrow7];rfl
  have hrowq:(w7.setCell ⟨w4.heap.size,1,none⟩ (.string ⟨(t).toArray⟩)).heap[w4.heap.size]?=some (.cells #[.string ⟨(c).toArray⟩,.string ⟨(t).toArray⟩] 72 (0,0)):=by
   rw [heap_setCell_same w7 _ _ _ _ _ hrow7];rfl
  have hownq:=qH hown7 (a:=⟨w4.heap.size,1,none⟩) (fun e=>by have:=(hlt4 _ e).2;simp at this) (.string ⟨(t).toArray⟩);have hrdq:=hrd7.setHi (a:=⟨w4.heap.size,1,none⟩) gH (.string ⟨(t).toArray⟩);have hgrq:=jW hgr7 (a:=⟨w4.heap.size,1,none⟩) gz (.string ⟨(t).toArray⟩);clear hq hq7 hby7 hrow7 hown7 hrd7;have hrc0:(w7.setCell ⟨w4.heap.size,1,none⟩ (.string ⟨(t).toArray⟩)).cell? ⟨w4.heap.size,0,none⟩=some (.string ⟨(c).toArray⟩):=by rw [Cv hrowq];rfl
  have hrc1:(w7.setCell ⟨w4.heap.size,1,none⟩ (.string ⟨(t).toArray⟩)).cell? ⟨w4.heap.size,1,none⟩=some (.string ⟨(t).toArray⟩):=by rw [Cv hrowq];rfl
  have hbn:Below (w7.setCell ⟨w4.heap.size,1,none⟩ (.string ⟨(t).toArray⟩)).heap.size (w7.setCell ⟨w4.heap.size,1,none⟩ (.string ⟨(t).toArray⟩)) ((w7.setCell ⟨w4.heap.size,1,none⟩ (.string ⟨(t).toArray⟩)).alloc (.cells #[.string ⟨(c).toArray⟩,.string ⟨(t).toArray⟩] 72)):=(Below.refl _ _).alloc (Cp _) _;have HO6:=ab (jZ hownq hbn);have hsl6:Sl ((w7.setCell ⟨w4.heap.size,1,none⟩ (.string ⟨(t).toArray⟩)).alloc (.cells #[.string ⟨(c).toArray⟩,.string ⟨(t).toArray⟩] 72)) ((w7.setCell ⟨w4.heap.size,1,none⟩ (.string ⟨(t).toArray⟩)).alloc (.cells #[.string ⟨(c).toArray⟩,.string ⟨(t).toArray⟩] 72)).heap.size (some ⟨w7.heap.size,0,none⟩) 2 1 (jX [(c,t)]):=by
   rw [show w7.heap.size=(w7.setCell ⟨w4.heap.size,1,none⟩ (.string ⟨(t).toArray⟩)).heap.size from by first|rfl|simp [World.setCell]];exact Sl.lit (n:=1) (sz:=2) (heap_alloc_new (w7.setCell ⟨w4.heap.size,1,none⟩ (.string ⟨(t).toArray⟩)) (.cells #[.string ⟨(c).toArray⟩,.string ⟨(t).toArray⟩] 72)) rfl
  have HSL6:=ab hsl6;clear hsl6;have HRD6:=ab (hrdq.later hbn);have hgr6:=jM hgrq (jN hbn (some g));have hz6:=hgr6.size;clear hrowq hownq hrdq hgrq hbn;go_wp2_with (at_builtin;refine ke w2.heap.size 72 rfl _ _ 22 rfl Tryz.underlying22 hir rfl gD rfl (HO6.out) rfl (HSL6.out) (lW [(c,t)]) gu gu gD hz6 ?_)
  intro v7 w7 hown7 hq7 hb7 _;have hown8:w7.ownsRow w2.heap.size 72 2 v7 (rows++[(c,t)]).length (jX (rows++[(c,t)])):=by
   rw [Cy,show jX (rows++[(c,t)])=jX rows++jX [(c,t)] from by simp [jX]];exact hown7
  have hrd7:=HRD6.out.grownHi hq7 (fun k hk=>by have:=(hlt4 k hk).1;omega);have hgr7:w2.grownBy w7 (some g):=mT hgr6 hb7 gu;have hrl7:=qU (nm:=[(c,t)]) HRL.out gH;clear hown7 hq7 hb7;go_wp2
  go_roundg n
  case measure=>omega
  case rel=>exact⟨rows++[(c,t)],r4,hown8,hrd7,hgr7,by simp at *;omega,by simp at *;omega,hrl7,HF2⟩):p:=h
theorem ah {p:Prop} (h:p:=by
 have HR:Hid (Except.error 10=R):=ab hR;clear hR hp hl;obtain⟨w0,hw0⟩:∃w0,w0=w.alloc (.cells #[.int .i64 0,.string ⟨#[]⟩,.bool false,.slice none 0 0,.int .i64 0,.int .i64 0,.bool false,.slice none 0 0] 25):=⟨_,rfl⟩;obtain⟨hb0,hz0,hby0⟩:=kB w hw0;have HRD:=ab (h.later hb0);rw [hw0] at HRD;have HW0:=ab hw0;have HBY0:=ab hby0;have hgg:w.grownBy w0 (some g):=jN hb0 _;have hgr:g<w.heap.size:=h.lt;clear hw0 hby0 h;go_enter Tryz.func113,Tryz.ntmps113
 go_wp2_with (go_at_call 138;refine(km _ HRD.out).mono ?_)
 rintro e w1 ⟨rfl,hrd1,hq1⟩;rw [←HW0.out] at hq1;have hg1:=jM hgg hq1;have HRD1:=ab hrd1;have HBY1:=ab (jQ HBY0.out hq1 gu);have hz1:=hq1.size;clear hrd1 hq1;obtain⟨f0,f1,f2,f3,f4,f5,f6,f7,f8⟩:=jR (c:=[]) HBY1.out;go_wp2
 refine CJ (v:=.tuple #[.agg #[.int .i64 0,.string ⟨([]).toArray⟩,.bool false,.slice none 0 0,.int .i64 0,.int .i64 0,.bool false,.slice none 0 0],.int .i64 10]) gT rfl ?_;refine⟨?_,?_⟩
 ·iterate 8 (refine jW ?_ gz _)
  exact hg1
 ·rw [←HR.out]
  exact fA):p:=h
theorem ai {p:Prop} (h:p:=by
 have HQT:=ab (sq _ HRD6.out hxv6 hz6 gu);clear hat hxv hxv0 hrs hks hrd2 hby2 hb6 hxv6 hz6;unfold rxc at HQT ⊢;go_wp2_with (go_at_call 114;refine HQT.out.mono ?_)
 rintro e w8 hq;clear HQT;cases hres:me (.mk k c ng rs lo hi lz ks) r3 with
 | error q =>
  rw [hres] at hq;obtain⟨hq8,rfl,r9,hrd9⟩:=hq;have HR2:Hid (Except.error q=R):=ab jL;have HR:=HR2;have hg8:=jM hg6 hq8;have HRD9:=ab hrd9;obtain⟨f0,f1,f2,f3,f4,f5,f6,f7,f8⟩:=jR (c:=[]) (jQ HBY6.out hq8 gu);clear hres hq8 hrd9;unfold rxv0;go_wp2
  refine CJ (v:=.tuple #[.agg #[.int .i64 0,.string ⟨([]).toArray⟩,.bool false,.slice none 0 0,.int .i64 0,.int .i64 0,.bool false,.slice none 0 0],.int .i64 q]) gQ rfl ?_;refine⟨?_,?_⟩
  ·exact gj
  ·rw [←HR.out]
   exact eV
 | ok y =>
  obtain⟨x,r3⟩:=y;rw [hres] at hq;obtain⟨hq8,cc,rfl,hxv,hrd9⟩:=hq;have HR2:Hid (Except.ok (x,r3)=R):=ab jL;have HR:=HR2;have hg8:=jM hg6 hq8;have HRD9:=ab hrd9;obtain⟨k,c,ng,rs,lo,hi,lz,ks⟩:=x;have hxv0:=hxv;obtain⟨ra,rc,ka,kc,rfl,hrs,hks⟩:=hxv.open_;have HXV:=ab (hxv0.mono (S':=fun b=>w.heap.size≤b∧b≠w.heap.size) fun b hb hlt=>by have:=hz2;constructor<;>omega);obtain⟨f0,f1,f2,f3,f4,f5,f6,f7,f8⟩:=jR (c:=[]) (jQ HBY6.out hq8 gu);clear hres hq8 hrd9 hxv hxv0 hrs hks;unfold rxc at HXV ⊢;go_wp2
  refine CJ (v:=.tuple #[.agg #[.int .i64 k,.string ⟨(c).toArray⟩,.bool ng,.slice ra rs.length rc,.int .i64 lo,.int .i64 hi,.bool lz,.slice ka ks.length kc],.int .i64 0]) gQ rfl ?_;refine⟨?_,?_⟩
  ·exact gj
  rw [←HR.out];refine⟨rxc k c ng ra rs.length rc lo hi lz ka ks.length kc,rfl,RxV.mono (S:=fun b=>w.heap.size≤b∧b≠w.heap.size) (fun b hb _=>hb.1) ?_,?_⟩
  ·iterate 8 (refine RxV.keep (Kept.setLow _ (fun b hb=>by have:w.heap.size≤b∧b≠w.heap.size:=hb;first|omega|(simp;done)|(simp;omega))) ?_)
   exact HXV.out
  ·iterate 8 (refine RdT.setHi ?_ gz _)
   exact HRD9.out):p:=h
theorem aj {p:Prop} (h:p:=by
 subst h93;have HF2:Hid (lc n (rows++[(c,c)]) ([45]::[93]::r3)=R0):=ab (by rw [←HF.out];simp only [lc,ht,hit,ht2];simp [kG]);clear HF ht hit hrd hok ht2;go_wp2_with (go_at_call 143;refine(kj _ HRD.out HT.out gF).mono ?_)
 rintro e w3 ⟨rfl,hrd3,hq3⟩;have hgr3:=jM hg hq3;have hown3:=kq HOWN.out hq3 gu;have HRD3:=ab hrd3;clear hrd3 hq3;go_wp2_with (go_at_call 165;refine(lF _ HRD3.out).mono ?_)
 rintro e w4 hq;have hq4:=hq.1;have hqe:=hq.2;rw [HIT.out] at hqe;obtain⟨hrd4,hqe⟩:=hqe;rcases hqe with⟨_,rfl⟩|⟨q,_⟩
 case inr=>exact absurd rfl q
 have hgr4:=jM hgr3 hq4;have hown4:=kq hown3 hq4 gu;have hlt4:=hown4.lt;obtain⟨va,vc,rfl⟩:=j7 hown4;have hz4:=hgr4.size;obtain⟨w5,hw5⟩:∃w5,w5=w4.alloc (.cells #[.string ⟨(c).toArray⟩,.string ⟨(c).toArray⟩] 72):=⟨_,rfl⟩;obtain⟨hb5,hz5e,hbr5⟩:=kB w4 hw5;have hz5:w4.heap.size+1≤w5.heap.size:=gu;have HOWN5:=ab (jZ hown4 hb5);have HRD5:=ab (hrd4.later hb5);have HBR5:=ab hbr5;have hgr5:=jM hgr4 (jN hb5 (some g));clear hq hq4 hrd4 hown3 hown4 hz5e hbr5 HRD3;obtain⟨ir,hir⟩:=info_parts mm;go_upto_region 10 with fail
 rw [←hw5];clear hw5;obtain⟨lb,lo,lk,li,ln,l0,l1,l2,l3,l4⟩:=HRD5.out.look1;have HSEE:Hid (∀x:ExtOf w5,Calls Tryz.prog 46 #[.pointer (some ⟨g,0,none⟩)] x.val fun e w'=>e=.returned (.string ⟨(([45]:Str)).toArray⟩)∧Below x.val.heap.size x.val w'):=ab fun x=>(kH _ (HRD5.out.later x.ext)).mono fun _ _ ⟨h1,h2⟩=>⟨by rw [h1];rfl,h2.below _⟩
 have d0:∀x:ExtOf w5,x.val.cell? ⟨g,0,none⟩=some (.slice (some ⟨lb,lo,none⟩) ln lk):=ExtOf.cell l0;have d1:∀x:ExtOf w5,x.val.cell? ⟨g,1,none⟩=some (.int .i64 li):=ExtOf.cell l1;have d2:∀x:ExtOf w5,x.val.cell? ⟨lb,lo+(li+1),none⟩=some (.string ⟨([93]).toArray⟩):=ExtOf.cell l4;have gg:decide (ln≤li+1)=false:=by simp;omega
 have gg2:decide ((ln:Int)≤(li:Int)+1)=false:=by simp;omega
 have gn:((li:Int)+1).toNat=li+1:=gu;have gn0:(0:Int)≤(li:Int)+1:=gu;have gn1:(li:Int)+1<(ln:Int):=gu;have gw:IntKind.i64.wrap ((li:Int)+1)=(li:Int)+1:=IntWalk.i64_in _ gu;clear l0 l1 l4;refine jS gE gE ?_;repeat (go_big_quiet_step ((go_at_call 46;exact ku (HSEE.out _))))
 refine wpQuiet_nil ?_;rintro _ ⟨xq,rfl⟩;clear d0 d1 d2 gg gg2 gn gn0 gn1 gw;have hrowq:=(xq.ext.block _ (jO HBR5.out)).trans HBR5.out;have hownq:=jZ HOWN5.out xq.ext;have hrdq:=HRD5.out.later xq.ext;have hgrq:=jM hgr5 (jN xq.ext (some g));generalize xq.val=wq at *
 clear HSEE;have hrc0:(wq).cell? ⟨w4.heap.size,0,none⟩=some (.string ⟨(c).toArray⟩):=by rw [Cv hrowq];rfl
 have hrc1:(wq).cell? ⟨w4.heap.size,1,none⟩=some (.string ⟨(c).toArray⟩):=by rw [Cv hrowq];rfl
 have hbn:Below (wq).heap.size (wq) ((wq).alloc (.cells #[.string ⟨(c).toArray⟩,.string ⟨(c).toArray⟩] 72)):=(Below.refl _ _).alloc (Cp _) _;have HO6:=ab (jZ hownq hbn);have hsl6:Sl ((wq).alloc (.cells #[.string ⟨(c).toArray⟩,.string ⟨(c).toArray⟩] 72)) ((wq).alloc (.cells #[.string ⟨(c).toArray⟩,.string ⟨(c).toArray⟩] 72)).heap.size (some ⟨wq.heap.size,0,none⟩) 2 1 (jX [(c,c)]):=by
  exact fC
 have HSL6:=ab hsl6;clear hsl6;have HRD6:=ab (hrdq.later hbn);have hgr6:=jM hgrq (jN hbn (some g));have hz6:=hgr6.size;clear hrowq hownq hrdq hgrq hbn;go_wp2_with (at_builtin;refine ke w2.heap.size 72 rfl _ _ 22 rfl Tryz.underlying22 hir rfl gD rfl (HO6.out) rfl (HSL6.out) (lW [(c,c)]) gu gu gD hz6 ?_)
 intro v7 w7 hown7 hq7 hb7 _;have hown8:w7.ownsRow w2.heap.size 72 2 v7 (rows++[(c,c)]).length (jX (rows++[(c,c)])):=by
  exact fT
 have hrd7:=HRD6.out.grownHi hq7 (fun k hk=>by have:=(hlt4 k hk).1;omega);have hgr7:w2.grownBy w7 (some g):=mT hgr6 hb7 gu;have hrl7:=qU (nm:=[(c,c)]) HRL.out gH;clear hown7 hq7 hb7;go_wp2
 go_roundg n
 case measure=>omega
 case rel=>exact⟨rows++[(c,c)],([45]::[93]::r3),hown8,hrd7,hgr7,by simp at *;omega,by simp at *;omega,hrl7,HF2⟩):p:=h
theorem ak {p:Prop} (h:p:=by
 have HF2:Hid (none=R0):=ab (by rw [←HF.out];simp only [lc,ht,hit,ht2,ht3,hit2];simp);have HR2:Hid (Except.error 10=R):=ab iJ;clear HR;have HR:=HR2;have HIT2:=ab hit2;clear HF ht hit hrd hok ht2 ht3 hit2 h93;go_wp2_with (go_at_call 143;refine(kj _ HRD.out HT.out gF).mono ?_)
 rintro e w3 ⟨rfl,hrd3,hq3⟩;have hgr3:=jM hg hq3;have hown3:=kq HOWN.out hq3 gu;have HRD3:=ab hrd3;clear hrd3 hq3;go_wp2_with (go_at_call 165;refine(lF _ HRD3.out).mono ?_)
 rintro e w4 hq;have hq4:=hq.1;have hqe:=hq.2;rw [HIT.out] at hqe;obtain⟨hrd4,hqe⟩:=hqe;rcases hqe with⟨_,rfl⟩|⟨q,_⟩
 case inr=>exact absurd rfl q
 have hgr4:=jM hgr3 hq4;have hown4:=kq hown3 hq4 gu;have hlt4:=hown4.lt;obtain⟨va,vc,rfl⟩:=j7 hown4;have hz4:=hgr4.size;obtain⟨w5,hw5⟩:∃w5,w5=w4.alloc (.cells #[.string ⟨(c).toArray⟩,.string ⟨(c).toArray⟩] 72):=⟨_,rfl⟩;obtain⟨hb5,hz5e,hbr5⟩:=kB w4 hw5;have hz5:w4.heap.size+1≤w5.heap.size:=gu;have HOWN5:=ab (jZ hown4 hb5);have HRD5:=ab (hrd4.later hb5);have HBR5:=ab hbr5;have hgr5:=jM hgr4 (jN hb5 (some g));clear hq hq4 hrd4 hown3 hown4 hz5e hbr5 HRD3;obtain⟨ir,hir⟩:=info_parts mm;go_upto_region 10 with fail
 rw [←hw5];clear hw5;obtain⟨lb,lo,lk,li,ln,l0,l1,l2,l3,l4⟩:=HRD5.out.look1;have HSEE:Hid (∀x:ExtOf w5,Calls Tryz.prog 46 #[.pointer (some ⟨g,0,none⟩)] x.val fun e w'=>e=.returned (.string ⟨(([45]:Str)).toArray⟩)∧Below x.val.heap.size x.val w'):=ab fun x=>(kH _ (HRD5.out.later x.ext)).mono fun _ _ ⟨h1,h2⟩=>⟨by rw [h1];rfl,h2.below _⟩
 have d0:∀x:ExtOf w5,x.val.cell? ⟨g,0,none⟩=some (.slice (some ⟨lb,lo,none⟩) ln lk):=ExtOf.cell l0;have d1:∀x:ExtOf w5,x.val.cell? ⟨g,1,none⟩=some (.int .i64 li):=ExtOf.cell l1;have d2:∀x:ExtOf w5,x.val.cell? ⟨lb,lo+(li+1),none⟩=some (.string ⟨(c3).toArray⟩):=ExtOf.cell l4;have gg:decide (ln≤li+1)=false:=by simp;omega
 have gg2:decide ((ln:Int)≤(li:Int)+1)=false:=by simp;omega
 have gn:((li:Int)+1).toNat=li+1:=gu;have gn0:(0:Int)≤(li:Int)+1:=gu;have gn1:(li:Int)+1<(ln:Int):=gu;have gw:IntKind.i64.wrap ((li:Int)+1)=(li:Int)+1:=IntWalk.i64_in _ gu;clear l0 l1 l4;refine jS gE gE ?_;repeat (go_big_quiet_step ((go_at_call 46;exact ku (HSEE.out _))))
 refine wpQuiet_nil ?_;rintro _ ⟨xq,rfl⟩;clear d0 d1 d2 gg gg2 gn gn0 gn1 gw;have hbyq:=(xq.ext.block _ (jO (jQ HBY2.out hgr5 gu))).trans (jQ HBY2.out hgr5 gu);have hrowq:=(xq.ext.block _ (jO HBR5.out)).trans HBR5.out;have hownq:=jZ HOWN5.out xq.ext;have hrdq:=HRD5.out.later xq.ext;have hgrq:=jM hgr5 (jN xq.ext (some g));generalize xq.val=wq at *
 clear HSEE;obtain⟨i,hi9,c1,hf,hr6⟩:=hrdq.step;have HRD6:=ab hr6;have hgr6:=j9 hgrq 1 (.int .i64 ((i:Int)+1));have HBYQ:=ab (kg hbyq (a:=⟨g,1,none⟩) gz (.int .i64 ((i:Int)+1)));have HROWQ:=ab (kg hrowq (a:=⟨g,1,none⟩) gz (.int .i64 ((i:Int)+1)));have HOWNQ:=ab (ny hownq (a:=⟨g,1,none⟩) gz (.int .i64 ((i:Int)+1)));clear hrdq hr6 hbyq hrowq hownq hgrq;go_wp2_with (go_at_call 165;refine(lF _ HRD6.out).mono ?_)
 rintro e w7 hq;have hq7:=hq.1;have hqe:=hq.2;rw [HIT2.out] at hqe;have hgr7:=jM hgr6 hq7;have hgw7:=jM hg2 hgr7;have hby7:=jQ HBYQ.out hq7 gu;have hrow7:=jQ HROWQ.out hq7 gu;have hown7:=kq HOWNQ.out hq7 gu;obtain⟨f0,f1,f2,f3,f4,f5,f6,f7,f8⟩:=jR (c:=[]) hby7;obtain⟨hqe',r9,hrd9⟩:e=.returned (.tuple #[.string ⟨#[]⟩,.slice none 0 0,.int .i64 10])∧∃r,Rd w7 g r d:=hqe;subst hqe';have HRD9:=ab hrd9;clear hq hq7 hby7 hrow7 hown7 hrd9;go_wp2
 refine CJ (v:=.tuple #[.agg #[.int .i64 0,.string ⟨([]).toArray⟩,.bool false,.slice none 0 0,.int .i64 0,.int .i64 0,.bool false,.slice none 0 0],.int .i64 10]) gP rfl ?_;refine⟨?_,?_⟩
 ·iterate 8 (refine jW ?_ gz _)
  exact hgw7
 ·rw [←HR.out]
  exact eV):p:=h
theorem am {p:Prop} (h:p:=by
 have HF2:Hid (none=R0):=ab (by rw [←HF.out];simp only [lc,ht,hit,ht2,ht3,hit2];simp [hnm2]);have HR2:Hid (Except.error 10=R):=ab iJ;clear HR;have HR:=HR2;have HNM2:=ab hnm2;clear HF ht hit hrd hok ht2 ht3 hit2 h93 hnm2;go_wp2_with (go_at_call 143;refine(kj _ HRD.out HT.out gF).mono ?_)
 rintro e w3 ⟨rfl,hrd3,hq3⟩;have hgr3:=jM hg hq3;have hown3:=kq HOWN.out hq3 gu;have HRD3:=ab hrd3;clear hrd3 hq3;go_wp2_with (go_at_call 165;refine(lF _ HRD3.out).mono ?_)
 rintro e w4 hq;have hq4:=hq.1;have hqe:=hq.2;rw [HIT.out] at hqe;obtain⟨hrd4,hqe⟩:=hqe;rcases hqe with⟨_,rfl⟩|⟨q,_⟩
 case inr=>exact absurd rfl q
 have hgr4:=jM hgr3 hq4;have hown4:=kq hown3 hq4 gu;have hlt4:=hown4.lt;obtain⟨va,vc,rfl⟩:=j7 hown4;have hz4:=hgr4.size;obtain⟨w5,hw5⟩:∃w5,w5=w4.alloc (.cells #[.string ⟨(c).toArray⟩,.string ⟨(c).toArray⟩] 72):=⟨_,rfl⟩;obtain⟨hb5,hz5e,hbr5⟩:=kB w4 hw5;have hz5:w4.heap.size+1≤w5.heap.size:=gu;have HOWN5:=ab (jZ hown4 hb5);have HRD5:=ab (hrd4.later hb5);have HBR5:=ab hbr5;have hgr5:=jM hgr4 (jN hb5 (some g));clear hq hq4 hrd4 hown3 hown4 hz5e hbr5 HRD3;obtain⟨ir,hir⟩:=info_parts mm;go_upto_region 10 with fail
 rw [←hw5];clear hw5;obtain⟨lb,lo,lk,li,ln,l0,l1,l2,l3,l4⟩:=HRD5.out.look1;have HSEE:Hid (∀x:ExtOf w5,Calls Tryz.prog 46 #[.pointer (some ⟨g,0,none⟩)] x.val fun e w'=>e=.returned (.string ⟨(([45]:Str)).toArray⟩)∧Below x.val.heap.size x.val w'):=ab fun x=>(kH _ (HRD5.out.later x.ext)).mono fun _ _ ⟨h1,h2⟩=>⟨by rw [h1];rfl,h2.below _⟩
 have d0:∀x:ExtOf w5,x.val.cell? ⟨g,0,none⟩=some (.slice (some ⟨lb,lo,none⟩) ln lk):=ExtOf.cell l0;have d1:∀x:ExtOf w5,x.val.cell? ⟨g,1,none⟩=some (.int .i64 li):=ExtOf.cell l1;have d2:∀x:ExtOf w5,x.val.cell? ⟨lb,lo+(li+1),none⟩=some (.string ⟨(c3).toArray⟩):=ExtOf.cell l4;have gg:decide (ln≤li+1)=false:=by simp;omega
 have gg2:decide ((ln:Int)≤(li:Int)+1)=false:=by simp;omega
 have gn:((li:Int)+1).toNat=li+1:=gu;have gn0:(0:Int)≤(li:Int)+1:=gu;have gn1:(li:Int)+1<(ln:Int):=gu;have gw:IntKind.i64.wrap ((li:Int)+1)=(li:Int)+1:=IntWalk.i64_in _ gu;clear l0 l1 l4;refine jS gE gE ?_;repeat (go_big_quiet_step ((go_at_call 46;exact ku (HSEE.out _))))
 refine wpQuiet_nil ?_;rintro _ ⟨xq,rfl⟩;clear d0 d1 d2 gg gg2 gn gn0 gn1 gw;have hbyq:=(xq.ext.block _ (jO (jQ HBY2.out hgr5 gu))).trans (jQ HBY2.out hgr5 gu);have hrowq:=(xq.ext.block _ (jO HBR5.out)).trans HBR5.out;have hownq:=jZ HOWN5.out xq.ext;have hrdq:=HRD5.out.later xq.ext;have hgrq:=jM hgr5 (jN xq.ext (some g));generalize xq.val=wq at *
 clear HSEE;obtain⟨i,hi9,c1,hf,hr6⟩:=hrdq.step;have HRD6:=ab hr6;have hgr6:=j9 hgrq 1 (.int .i64 ((i:Int)+1));have HBYQ:=ab (kg hbyq (a:=⟨g,1,none⟩) gz (.int .i64 ((i:Int)+1)));have HROWQ:=ab (kg hrowq (a:=⟨g,1,none⟩) gz (.int .i64 ((i:Int)+1)));have HOWNQ:=ab (ny hownq (a:=⟨g,1,none⟩) gz (.int .i64 ((i:Int)+1)));clear hrdq hr6 hbyq hrowq hownq hgrq;go_wp2_with (go_at_call 165;refine(lF _ HRD6.out).mono ?_)
 rintro e w7 hq;have hq7:=hq.1;have hqe:=hq.2;rw [HIT2.out] at hqe;have hgr7:=jM hgr6 hq7;have hgw7:=jM hg2 hgr7;have hby7:=jQ HBYQ.out hq7 gu;have hrow7:=jQ HROWQ.out hq7 gu;have hown7:=kq HOWNQ.out hq7 gu;obtain⟨f0,f1,f2,f3,f4,f5,f6,f7,f8⟩:=jR (c:=[]) hby7;obtain⟨hrd7,hqe⟩:=hqe;rcases hqe with⟨q,_⟩|⟨_,la2,lk2,rfl,_⟩
 case inl=>exact absurd q HNM2.out
 have HRD9:=ab hrd7;clear hq hq7 hby7 hrow7 hown7 hrd7;go_wp2
 refine CJ (v:=.tuple #[.agg #[.int .i64 0,.string ⟨([]).toArray⟩,.bool false,.slice none 0 0,.int .i64 0,.int .i64 0,.bool false,.slice none 0 0],.int .i64 10]) gP rfl ?_;refine⟨?_,?_⟩
 ·iterate 8 (refine jW ?_ gz _)
  exact hgw7
 ·rw [←HR.out]
  exact eV):p:=h
theorem an {p:Prop} (h:p:=by
 have HF2:Hid (lc n (rows++[(c,c)]) r1=R0):=ab (by rw [←HF.out];simp only [lc,ht,hit,ht2];simp);have hne:=(tK ht2 gF).1;obtain⟨u,hu⟩:∃u,hdS r1=u:=⟨_,rfl⟩;rw [hu] at hne;have HU:=ab hu;clear HF ht hit hrd hok ht2 hu;go_wp2_with (go_at_call 143;refine(kj _ HRD.out HT.out gF).mono ?_)
 rintro e w3 ⟨rfl,hrd3,hq3⟩;have hgr3:=jM hg hq3;have hown3:=kq HOWN.out hq3 gu;have HRD3:=ab hrd3;clear hrd3 hq3;go_wp2_with (go_at_call 165;refine(lF _ HRD3.out).mono ?_)
 rintro e w4 hq;have hq4:=hq.1;have hqe:=hq.2;rw [HIT.out] at hqe;obtain⟨hrd4,hqe⟩:=hqe;rcases hqe with⟨_,rfl⟩|⟨q,_⟩
 case inr=>exact absurd rfl q
 have hgr4:=jM hgr3 hq4;have hown4:=kq hown3 hq4 gu;have hlt4:=hown4.lt;obtain⟨va,vc,rfl⟩:=j7 hown4;have hz4:=hgr4.size;obtain⟨w5,hw5⟩:∃w5,w5=w4.alloc (.cells #[.string ⟨(c).toArray⟩,.string ⟨(c).toArray⟩] 72):=⟨_,rfl⟩;obtain⟨hb5,hz5e,hbr5⟩:=kB w4 hw5;have hz5:w4.heap.size+1≤w5.heap.size:=gu;have HOWN5:=ab (jZ hown4 hb5);have HRD5:=ab (hrd4.later hb5);have HBR5:=ab hbr5;have hgr5:=jM hgr4 (jN hb5 (some g));clear hq hq4 hrd4 hown3 hown4 hz5e hbr5 HRD3;obtain⟨ir,hir⟩:=info_parts mm;go_upto_region 10 with fail
 rw [←hw5];clear hw5;have HSEE:Hid (∀x:ExtOf w5,Calls Tryz.prog 46 #[.pointer (some ⟨g,0,none⟩)] x.val fun e w'=>e=.returned (.string ⟨(u).toArray⟩)∧Below x.val.heap.size x.val w'):=ab fun x=>(kH _ (HRD5.out.later x.ext)).mono fun _ _ ⟨h1,h2⟩=>⟨by rw [h1,HU.out],h2.below _⟩
 refine jS gE gE ?_;repeat (go_big_quiet_step ((go_at_call 46;exact ku (HSEE.out _))))
 refine wpQuiet_nil ?_;rintro _ ⟨xq,rfl⟩;have hrowq:=(xq.ext.block _ (jO HBR5.out)).trans HBR5.out;have hownq:=jZ HOWN5.out xq.ext;have hrdq:=HRD5.out.later xq.ext;have hgrq:=jM hgr5 (jN xq.ext (some g));generalize xq.val=wq at *
 clear HSEE HU hne;have hrc0:(wq).cell? ⟨w4.heap.size,0,none⟩=some (.string ⟨(c).toArray⟩):=by rw [Cv hrowq];rfl
 have hrc1:(wq).cell? ⟨w4.heap.size,1,none⟩=some (.string ⟨(c).toArray⟩):=by rw [Cv hrowq];rfl
 have hbn:Below (wq).heap.size (wq) ((wq).alloc (.cells #[.string ⟨(c).toArray⟩,.string ⟨(c).toArray⟩] 72)):=(Below.refl _ _).alloc (Cp _) _;have HO6:=ab (jZ hownq hbn);have hsl6:Sl ((wq).alloc (.cells #[.string ⟨(c).toArray⟩,.string ⟨(c).toArray⟩] 72)) ((wq).alloc (.cells #[.string ⟨(c).toArray⟩,.string ⟨(c).toArray⟩] 72)).heap.size (some ⟨wq.heap.size,0,none⟩) 2 1 (jX [(c,c)]):=by
  exact fC
 have HSL6:=ab hsl6;clear hsl6;have HRD6:=ab (hrdq.later hbn);have hgr6:=jM hgrq (jN hbn (some g));have hz6:=hgr6.size;clear hrowq hownq hrdq hgrq hbn;go_wp2_with (at_builtin;refine ke w2.heap.size 72 rfl _ _ 22 rfl Tryz.underlying22 hir rfl gD rfl (HO6.out) rfl (HSL6.out) (lW [(c,c)]) gu gu gD hz6 ?_)
 intro v7 w7 hown7 hq7 hb7 _;have hown8:w7.ownsRow w2.heap.size 72 2 v7 (rows++[(c,c)]).length (jX (rows++[(c,c)])):=by
  exact fT
 have hrd7:=HRD6.out.grownHi hq7 (fun k hk=>by have:=(hlt4 k hk).1;omega);have hgr7:w2.grownBy w7 (some g):=mT hgr6 hb7 gu;have hrl7:=qU (nm:=[(c,c)]) HRL.out gH;clear hown7 hq7 hb7;go_wp2
 go_roundg n
 case measure=>omega
 case rel=>exact⟨rows++[(c,c)],r1,hown8,hrd7,hgr7,by simp at *;omega,by simp at *;omega,hrl7,HF2⟩):p:=h
theorem ap {p:Prop} (h:p:=by
 obtain⟨css,hca,hva⟩:=HOA1.out;obtain⟨csst,hct,hvt⟩:=HOT1.out;obtain⟨ta,tc,rfl⟩:=j7 hct;obtain⟨aa,ac,rfl⟩:=j7 hca;have HSEQ:=ab (Ak w1 ⟨csst,hct,hvt⟩ gu HSM.out.2);have HCA:=ab hca;have HVA:=ab hva;have hlta:=hca.lt;clear hca hva hct hvt;go_wp2_with (go_at_call 76;refine HSEQ.out.mono ?_)
 rintro e w5 hq5;obtain⟨cc5,rfl,hx5,hb5⟩:=hq5;obtain⟨yk,yc,yn,yr,yl,yh,yz,ys,za,zc,zka,zkc,hy,rfl⟩:=hx5.box;rw [hy] at hx5;have hbn:=(Below.refl w5.heap.size w5).alloc (Cp _) (.cells (rxc yk yc yn za yr.length zc yl yh yz zka ys.length zkc).toArray 25);have ho6:=jZ (jZ HCA.out hb5) hbn;have hsl6:=Sl.lit (n:=1) (sz:=8) (heap_alloc_new w5 (.cells (rxc yk yc yn za yr.length zc yl yh yz zka ys.length zkc).toArray 25)) rfl;have hrv6:=(HVA.out.later hb5).later hbn;have hcv6:=hx5.later hbn;have hone:=hx5.one;have hz5:=hb5.size;unfold rxc at ho6 hsl6 hrv6 hcv6 hone hbn;have HO6:=ab ho6;have HSL6:=ab hsl6;have HRV6:=ab hrv6;have HCV6:=ab hcv6;have HONE:=ab hone;have HY:=ab hy;clear ho6 hsl6 hrv6 hcv6 hone hx5 hy HSEQ HCA HVA;unfold rxc;have hlen6:=Rx.len_parts alts;go_wp2_with (at_builtin;refine ke w0.heap.size 25 rfl _ _ 23 rfl Tryz.underlying23 hix rfl gD rfl HO6.out rfl HSL6.out HONE.out gu gu gD gH ?_)
 intro v7 w7 ho7 hq7 hb7 hmv;have hox7:OwnX w7 w0.heap.size v7 (alts++[seqR terms]):=by
  exact fD
 obtain⟨s1,s2,s3⟩:=qq HSM.out.2 gu;have hpa:Rx.partsL (alts++[seqR terms])≤1000000:=by rw [lL];simp only [Rx.partsL];omega
 have hsa:Rx.smallL (alts++[seqR terms]):=lX HSM.out.1 ⟨s1,trivial⟩;obtain⟨a7,n7,c7,hv7⟩:=hox7.form;subst hv7;have HALT:=ab (Alt_res w7 hox7 hpa hsa);have hg05:=jM hgw1 (jN hb5 (some g));have hg06:=jM hg05 (jN hbn (some g));have hg07:=mT hg06 hb7 (Cp _);have hrd7:=((HRD1.out.later hb5).later hbn).grownHi hq7 (fun k hk=>by have:=(hlta k hk).1;omega);have HRD7:=ab hrd7;clear hox7 s1 s2 s3 hpa hsa hq7 hmv ho7 hb7 hrd7 hg05 hg06;go_wp2_with (go_at_call 75;refine HALT.out.mono ?_)
 rintro e w8 hq8;obtain⟨cc8,rfl,hx8,hb8⟩:=hq8;have hg08:=jM hg07 (jN hb8 (some g));have hg8:=jM hgg hg08;have HRD8:=ab (HRD7.out.later hb8);have hz07:=hg07.size;obtain⟨xk,xc,xn,xr,xl,xh,xz,xs,xa,xrc,xka,xkc,hy8,rfl⟩:=hx8.box;have HR2:Hid (Except.ok (Rx.mk xk xc xn xr xl xh xz xs,_)=R):=ab (hy8▸HF2.out);have HR:=HR2;rw [hy8] at hx8;have HXV:=ab (hx8.mono (S':=fun b=>w.heap.size≤b∧b≠w.heap.size) fun b hb hlt=>by constructor<;>omega);obtain⟨f0,f1,f2,f3,f4,f5,f6,f7,f8⟩:=jR (c:=[]) (jQ HBY0.out hg08 gu);clear hx8 hy8 HALT hg07 HRD7;unfold rxc at HXV ⊢;go_wp2
 refine CJ (v:=.tuple #[.agg #[.int .i64 xk,.string ⟨(xc).toArray⟩,.bool xn,.slice xa xr.length xrc,.int .i64 xl,.int .i64 xh,.bool xz,.slice xka xs.length xkc],.int .i64 0]) jc rfl ?_;refine⟨?_,?_⟩
 ·iterate 8 (refine jW ?_ gz _)
  exact hg8
 rw [←HR.out];refine⟨rxc xk xc xn xa xr.length xrc xl xh xz xka xs.length xkc,rfl,RxV.mono (S:=fun b=>w.heap.size≤b∧b≠w.heap.size) (fun b hb _=>hb.1) ?_,?_⟩
 ·iterate 8 (refine RxV.keep (Kept.setLow _ (fun b hb=>by have:w.heap.size≤b∧b≠w.heap.size:=hb;first|omega|(simp;done)|(simp;omega))) ?_)
  exact HXV.out
 ·iterate 8 (refine RdT.setHi ?_ gz _)
  exact HRD8.out):p:=h
theorem aq {p:Prop} (h:p:=by
 have HF2:Hid (none=R0):=ab (by rw [←HF.out];simp only [lc,ht,hit,ht2];simp [kG,pH]);have HR2:Hid (Except.error 10=R):=ab iJ;clear HR;have HR:=HR2;clear HF ht hit hrd hok ht2;go_wp2_with (go_at_call 143;refine(kj _ HRD.out HT.out gF).mono ?_)
 rintro e w3 ⟨rfl,hrd3,hq3⟩;have hgr3:=jM hg hq3;have hown3:=kq HOWN.out hq3 gu;have HRD3:=ab hrd3;clear hrd3 hq3;go_wp2_with (go_at_call 165;refine(lF _ HRD3.out).mono ?_)
 rintro e w4 hq;have hq4:=hq.1;have hqe:=hq.2;rw [HIT.out] at hqe;obtain⟨hrd4,hqe⟩:=hqe;rcases hqe with⟨_,rfl⟩|⟨q,_⟩
 case inr=>exact absurd rfl q
 have hgr4:=jM hgr3 hq4;have hown4:=kq hown3 hq4 gu;have hlt4:=hown4.lt;obtain⟨va,vc,rfl⟩:=j7 hown4;have hz4:=hgr4.size;obtain⟨w5,hw5⟩:∃w5,w5=w4.alloc (.cells #[.string ⟨(c).toArray⟩,.string ⟨(c).toArray⟩] 72):=⟨_,rfl⟩;obtain⟨hb5,hz5e,hbr5⟩:=kB w4 hw5;have hz5:w4.heap.size+1≤w5.heap.size:=gu;have HOWN5:=ab (jZ hown4 hb5);have HRD5:=ab (hrd4.later hb5);have HBR5:=ab hbr5;have hgr5:=jM hgr4 (jN hb5 (some g));clear hq hq4 hrd4 hown3 hown4 hz5e hbr5 HRD3;obtain⟨ir,hir⟩:=info_parts mm;go_upto_region 10 with fail
 rw [←hw5];clear hw5;obtain⟨la,lk,li,ln,l0,l1,l2,l3⟩:=HRD5.out.look0;have HSEE:Hid (∀x:ExtOf w5,Calls Tryz.prog 46 #[.pointer (some ⟨g,0,none⟩)] x.val fun e w'=>e=.returned (.string ⟨(([45]:Str)).toArray⟩)∧Below x.val.heap.size x.val w'):=ab fun x=>(kH _ (HRD5.out.later x.ext)).mono fun _ _ ⟨h1,h2⟩=>⟨by rw [h1];rfl,h2.below _⟩
 have d0:∀x:ExtOf w5,x.val.cell? ⟨g,0,none⟩=some (.slice la ln lk):=ExtOf.cell l0;have d1:∀x:ExtOf w5,x.val.cell? ⟨g,1,none⟩=some (.int .i64 li):=ExtOf.cell l1;have gg:decide (ln≤li+1)=true:=by simp;omega
 have gg2:decide ((ln:Int)≤(li:Int)+1)=true:=by simp;omega
 have gw:IntKind.i64.wrap ((li:Int)+1)=(li:Int)+1:=IntWalk.i64_in _ gu;clear l0 l1;refine jS gE gE ?_;repeat (go_big_quiet_step ((go_at_call 46;exact ku (HSEE.out _))))
 refine wpQuiet_nil ?_;rintro _ ⟨xq,rfl⟩;have hbyq:=(xq.ext.block _ (jO (jQ HBY2.out hgr5 gu))).trans (jQ HBY2.out hgr5 gu);have hrdq:=HRD5.out.later xq.ext;have hgrq:=jM hgr5 (jN xq.ext (some g));generalize xq.val=wq at *
 clear HSEE gg gg2 gw;obtain⟨i,hi9,c1,hf,hr6⟩:=hrdq.step;have HRD6:=ab hr6;have hgr6:=j9 hgrq 1 (.int .i64 ((i:Int)+1));have hbyq2:=kg hbyq (a:=⟨g,1,none⟩) gz (.int .i64 ((i:Int)+1));clear hrdq hr6 hbyq;go_wp2_with (go_at_call 165;refine(lF _ HRD6.out).mono ?_)
 rintro e w7 hq;have hq7:=hq.1;obtain⟨hqe',r9,hrd9⟩:e=.returned (.tuple #[.string ⟨#[]⟩,.slice none 0 0,.int .i64 10])∧∃r,Rd w7 g r d:=hq.2;subst hqe';have HRD9:=ab hrd9;clear hrd9;have hgr7:=jM hgr6 hq7;have hgw7:=jM hg2 hgr7;obtain⟨f0,f1,f2,f3,f4,f5,f6,f7,f8⟩:=jR (c:=[]) (jQ hbyq2 hq7 gu);clear hq hq7 hbyq2;go_wp2
 refine CJ (v:=.tuple #[.agg #[.int .i64 0,.string ⟨([]).toArray⟩,.bool false,.slice none 0 0,.int .i64 0,.int .i64 0,.bool false,.slice none 0 0],.int .i64 10]) gP rfl ?_;refine⟨?_,?_⟩
 ·iterate 8 (refine jW ?_ gz _)
  exact hgw7
 ·rw [←HR.out]
  exact eV):p:=h
theorem ar {p:Prop} (h:p:=by
 cases small with
 | false =>
  go_wp2_with (first|(go_at_call 100;refine(qf _ _ gu gu).mono ?_;rintro e w1 ⟨rfl,rfl⟩)|(go_at_call 63;refine(pX _ _ gu gu).mono ?_;rintro e w1 ⟨rfl,rfl⟩)|(go_at_call 101;refine(mC w.heap.size _ acc _ _ hbl gu hB gu (by have:=mE (upB c);simp;omega)).mono ?_))
  rintro e w2 ⟨rfl,hbl2,hfr2⟩;simp only [Int.toNat_natCast,UInt8.ofNat_toNat] at hbl2;clear hw;have hB3:=hbl2.lt;go_wp2_with fail
  go_roundw
  case rel =>
   refine⟨i+1,acc++[upB c],true,by omega,by go_num,hbl2,hb.trans (hfr2.below hB gF),?_,ab ⟨fun h=>by omega,fun _ x hx=>?_⟩,?_⟩
   ·exact ga
   ·exact fj
   ·refine ab ?_
    rw [Hr.out,←HF'.out];conv=>rhs;unfold mi;rw [Cl HW.out,Co gF,Co gF]
  case measure=>simp [intOf];omega
 | true =>
  by_cases hacc0:acc=[]
  ·subst hacc0
   go_wp2_with (first|(go_at_call 100;refine(qf _ _ gu gu).mono ?_;rintro e w1 ⟨rfl,rfl⟩)|(go_at_call 102;refine(An _ _ _ _ hbl).mono ?_;rintro e w1 ⟨rfl,rfl⟩)|(go_at_call 64;refine(vM _ _ gu gu).mono ?_;rintro e w1 ⟨rfl,rfl⟩)|(go_at_call 101;refine(mC w.heap.size _ [] _ _ hbl gF hB gu (by have:=mE (lowB c);simp;omega)).mono ?_))
   rintro e w2 ⟨rfl,hbl2,hfr2⟩;simp only [Int.toNat_natCast,UInt8.ofNat_toNat] at hbl2;clear hw;have hB3:=hbl2.lt;go_wp2_with fail
   go_roundw
   case rel =>
    refine⟨i+1,[]++[lowB c],true,by omega,by go_num,hbl2,hb.trans (hfr2.below hB gF),?_,ab ⟨fun h=>by omega,fun _ x hx=>?_⟩,?_⟩
    ·exact ga
    ·exact fj
    ·refine ab ?_
     rw [Hr.out,←HF'.out];conv=>rhs;unfold mi;rw [Cl HW.out,Co gF,Cl ⟨rfl,rfl⟩]
   case measure=>simp [intOf];omega
  ·have hl0:((acc.length:Int)==0)=false:=by
    rw [CM];intro h;exact hacc0 (Cm gu)
   have HA:=ab hacc0;clear hacc0;go_wp2_with (first|(go_at_call 100;refine(qf _ _ gu gu).mono ?_;rintro e w1 ⟨rfl,rfl⟩)|(go_at_call 102;refine(An _ _ _ _ hbl).mono ?_;rintro e w1 ⟨rfl,rfl⟩)|(go_at_call 63;refine(pX _ _ gu gu).mono ?_;rintro e w1 ⟨rfl,rfl⟩)|(go_at_call 101;refine(mC w.heap.size _ acc _ _ hbl gu hB gu (by have:=mE (upB c);simp;omega)).mono ?_))
   rintro e w2 ⟨rfl,hbl2,hfr2⟩;simp only [Int.toNat_natCast,UInt8.ofNat_toNat] at hbl2;clear hw;have hB3:=hbl2.lt;go_wp2_with fail
   go_roundw
   case rel =>
    refine⟨i+1,acc++[upB c],true,by omega,by go_num,hbl2,hb.trans (hfr2.below hB gF),?_,ab ⟨fun h=>by omega,fun _ x hx=>?_⟩,?_⟩
    ·exact ga
    ·exact fj
    ·refine ab ?_
     rw [Hr.out,←HF'.out];conv=>rhs;unfold mi;rw [Cl HW.out,Co gF,Co (fun h=>HA.out h.2)]
   case measure=>simp [intOf];omega):p:=h
theorem au {p:Prop} (h:p:=by
 obtain⟨x,r3⟩:=y;rw [hpr] at hq;obtain⟨hq5,cc,rfl,hxv,hrd5⟩:=hq;have hby5:=jQ HBY2.out hq5 gu;have hbl5:Below w.heap.size w w5:=ye hbw2 hq5 gu;have hz5:=hbl5.size;have hq5z:=hq5.size;obtain⟨k,c,ng,rs,lo,hi,lz,ks,ra,rc,ka,kc,hx,rfl⟩:=hxv.box;have hb6:Below w5.heap.size w5 (w5.alloc (.cells (rxc k c ng ra rs.length rc lo hi lz ka ks.length kc).toArray 25)):=(Below.refl _ _).alloc (Cp _) _;have hbl6:=hbl5.trans (hb6.mono hz5);have HRD6:=ab (hrd5.later hb6);have HXV:=ab ((hxv.mono (S':=fun b=>w.heap.size≤b∧b≠w.heap.size) fun b hb hlt=>by constructor<;>omega).later hb6);have HBY6:=ab ((hb6.block _ (jO hby5)).trans hby5);have HBX6:Hid ((w5.alloc (.cells (rxc k c ng ra rs.length rc lo hi lz ka ks.length kc).toArray 25)).heap[w5.heap.size]?=some (.cells (rxc k c ng ra rs.length rc lo hi lz ka ks.length kc).toArray 25 (0,0))):=ab (heap_alloc_new w5 _);clear hxv hrd5 hby5 hb6;unfold rxc at hbl6 HRD6 HXV HBY6 HBX6 ⊢;cases r3 with
 | nil =>
  have HR2:Hid (Except.ok x=R):=ab iV;have HR:=HR2;rw [hx] at HR HXV;clear hpr hx HR2;go_wp2_with (go_at_call 46;refine(kH _ HRD6.out).mono ?_)
  rintro e w7 ⟨rfl,hst⟩;have e0:hdS []=[]:=rfl;rw [e0];have hb7:=hst.below w.heap.size;have hbl7:=hbl6.trans hb7;have HXV7:=ab (HXV.out.later (hst.below _));obtain⟨f0,f1,f2,f3,f4,f5,f6,f7,f8⟩:=jR (c:=[]) (((hst.below _).block _ (jO HBY6.out)).trans HBY6.out);obtain⟨e0,e1,e2,e3,e4,e5,e6,e7,e8⟩:=jR (((hst.below _).block _ (jO HBX6.out)).trans HBX6.out);clear hst hb7;go_wp2
  refine CJ (v:=.tuple #[.agg #[.int .i64 k,.string ⟨(c).toArray⟩,.bool ng,.slice ra rs.length rc,.int .i64 lo,.int .i64 hi,.bool lz,.slice ka ks.length kc],.int .i64 0]) gX rfl ?_;refine⟨?_,?_⟩
  ·exact gf
  rw [←HR.out];refine⟨rxc k c ng ra rs.length rc lo hi lz ka ks.length kc,rfl,RxV.mono (S:=fun b=>w.heap.size≤b∧b≠w.heap.size) (fun b hb _=>hb.1) ?_⟩;iterate 8 (refine RxV.keep (Kept.setLow _ (fun b hb=>by have:w.heap.size≤b∧b≠w.heap.size:=hb;first|omega|(simp;done)|(simp;omega))) ?_)
  exact HXV7.out
 | cons p r4 =>
  have HR2:Hid (Except.error 10=R):=ab iV;have HR:=HR2;have hp0:=HRD6.out.pos.1;have hp1:List.isEmpty p=false:=by cases p<;>simp at hp0 ⊢
  have hp2:(!List.isEmpty p)=true:=by rw [hp1];rfl
  clear hpr hx HR2 hp0;go_wp2_with (go_at_call 46;refine(kH _ HRD6.out).mono ?_)
  rintro e w7 ⟨rfl,hst⟩;rw [kO];have hbl7:=hbl6.trans (hst.below w.heap.size);obtain⟨f0,f1,f2,f3,f4,f5,f6,f7,f8⟩:=jR (c:=[]) (((hst.below _).block _ (jO HBY6.out)).trans HBY6.out);clear hst;go_wp2
  refine CJ (v:=.tuple #[.agg #[.int .i64 0,.string ⟨([]).toArray⟩,.bool false,.slice none 0 0,.int .i64 0,.int .i64 0,.bool false,.slice none 0 0],.int .i64 10]) gX rfl ?_;refine⟨?_,?_⟩
  ·exact gf
  ·rw [←HR.out];rfl):p:=h
theorem av {p:Prop} (h:p:=by
 go_wp2_with (go_at_call 33;refine(lq w.heap.size _ acc _ _ il gu iv ju).mono ?_;rintro e w2 ⟨rfl,hbl2,hfr2⟩)
 go_roundw
 case rel =>
  refine⟨k+1,acc++els,by omega,by go_num,hbl2,?_,ab ?_,ab ?_⟩
  ·exact fz
  ·exact fb
  ·exact fB
 case measure=>simp [intOf];omega):p:=h
theorem aw {p:Prop} (h:p:=by
 have hb6:Below w2.heap.size w2 (w2.alloc (.cells #[.int .i64 0,.string ⟨#[]⟩,.bool false,.slice none 0 0,.int .i64 0,.int .i64 0,.bool false,.slice none 0 0] 25)):=(Below.refl _ _).alloc (Cp _) _;have HRD6:=ab (hrd9.later hb6);have hg6:=jM hg2 (jN hb6 (some g));have ne1:(q != 0)=true:=by simp [bne,hq0]
 obtain⟨f0,f1,f2,f3,f4,f5,f6,f7,f8⟩:=jR (c:=[]) ((hb6.block _ (jO hby2)).trans hby2);clear hat hby2 hrd9 hb6 hq2;unfold rxv0;go_wp2
 refine CJ (v:=.tuple #[.agg #[.int .i64 0,.string ⟨([]).toArray⟩,.bool false,.slice none 0 0,.int .i64 0,.int .i64 0,.bool false,.slice none 0 0],.int .i64 q]) gQ rfl ?_;refine⟨?_,?_⟩
 ·iterate 8 (refine jW ?_ gz _)
  exact hg6
 ·rw [←HR.out]
  exact fO):p:=h
theorem ax {p:Prop} (h:p:=by
 refine CJ (v:=.tuple #[tfv0,.int .i64 0,.bool false]) (by simp [results,Tryz.results9,go_sem,tfv0,z0,z1,z2,z3,z4,z5,z6,z7,z8,z9,z10]) rfl ⟨?_,by rw [HE.out];try rfl⟩
 (repeat (first|with_reducible exact Below.refl _ _|with_reducible assumption|(refine Below.setCell ?_ gO _)|(refine Below.alloc ?_ gJ _)|(refine Below.drew ?_)))):p:=h
theorem ay {p:Prop} (h:p:=by
 obtain⟨x,r3⟩:=y;rw [hres] at hq;obtain⟨hq8,cc,rfl,hxv,hrd9⟩:=hq;have HR2:Hid (Except.ok (x,r3)=R):=ab jL;have HR:=HR2;have hg8:=jM hg1 hq8;have HRD9:=ab hrd9;obtain⟨k,c,ng,rs,lo,hi,lz,ks⟩:=x;have hxv0:=hxv;obtain⟨ra,rc,ka,kc,rfl,hrs,hks⟩:=hxv.open_;have HXV:=ab (hxv0.mono (S':=fun b=>w.heap.size≤b∧b≠w.heap.size) fun b hb hlt=>by have:=hz1;constructor<;>omega);obtain⟨f0,f1,f2,f3,f4,f5,f6,f7,f8⟩:=jR (c:=[]) (jQ HBY1.out hq8 gu);clear hres hq8 hrd9 hxv hxv0 hrs hks;unfold rxc at HXV ⊢;go_wp2
 refine CJ (v:=.tuple #[.agg #[.int .i64 k,.string ⟨(c).toArray⟩,.bool ng,.slice ra rs.length rc,.int .i64 lo,.int .i64 hi,.bool lz,.slice ka ks.length kc],.int .i64 0]) gT rfl ?_;refine⟨?_,?_⟩
 ·iterate 8 (refine jW ?_ gz _)
  exact hg8
 rw [←HR.out];refine⟨rxc k c ng ra rs.length rc lo hi lz ka ks.length kc,rfl,RxV.mono (S:=fun b=>w.heap.size≤b∧b≠w.heap.size) (fun b hb _=>hb.1) ?_,?_⟩
 ·iterate 8 (refine RxV.keep (Kept.setLow _ (fun b hb=>by have:w.heap.size≤b∧b≠w.heap.size:=hb;first|omega|(simp;done)|(simp;omega))) ?_)
  exact HXV.out
 ·iterate 8 (refine RdT.setHi ?_ gz _)
  exact HRD9.out):p:=h
theorem aA {p:Prop} (h:p:=by
 have HE':Hid (R=some (⟨4,n,0,[],t⟩,r2)):=ab jC;clear hU HE;go_enter Tryz.func80,Tryz.ntmps80
 go_wp2_with (first|(go_at_call 79;refine(lI _ _ _ _ gu gu gF).mono ?_;rintro e w1 ⟨rfl,rfl⟩)|(go_at_call 117;refine(oY _ gu gu gu gu HU.out).mono ?_;rintro e w1 ⟨hb1,hlt,j,hj1,hj2,hj3,rfl⟩;obtain⟨hc1,hf1⟩:=qy hb1;have z0:w1.cell? ⟨w.heap.size,0,none⟩=some (.int .i64 0):= gv;have z1:w1.cell? ⟨w.heap.size,1,none⟩=some (.int .i64 0):= gv;have z2:w1.cell? ⟨w.heap.size,2,none⟩=some (.int .i64 0):= gv;have z3:w1.cell? ⟨w.heap.size,3,none⟩=some (.string ⟨#[]⟩):= gv;have z4:w1.cell? ⟨w.heap.size,4,none⟩=some (.string ⟨#[]⟩):= gv;have y0:w1.cell? ⟨w.heap.size+1,0,none⟩=some (.int .i64 4):= gv;have y1:w1.cell? ⟨w.heap.size+1,1,none⟩=some (.int .i64 ↑n):= gv;have y2:w1.cell? ⟨w.heap.size+1,2,none⟩=some (.int .i64 0):= gv;have y3:w1.cell? ⟨w.heap.size+1,3,none⟩=some (.string ⟨#[]⟩):= gv;have y4:w1.cell? ⟨w.heap.size+1,4,none⟩=some (.string ⟨#[]⟩):= gv;have hbw:Below w.heap.size w w1:=((((Below.refl w.heap.size w).alloc (Cp _) _).alloc gF _).trans (hb1.mono gH));have HJ3:=ab hj3;clear hj3))
 refine CJ (v:=.tuple #[.agg #[.int .i64 4,.int .i64 n,.int .i64 0,.string ⟨([]).toArray⟩,.string ⟨(t).toArray⟩],.int .i64 (j+1),.bool true]) gW rfl ⟨?_,?_⟩
 ·(repeat (first|with_reducible exact Below.refl _ _|with_reducible assumption|(refine Below.setCell ?_ gO _)|(refine Below.alloc ?_ gJ _)|(refine Below.drew ?_)))
 ·rw [HE'.out]
  exact fV):p:=h
theorem aB {p:Prop} (h:p:=by
 unfold rxc at HB0 hb0 c0 ⊢;try unfold rxc at hc
 try unfold rxc at hc'
 go_enter Tryz.func162,Tryz.ntmps162
 go_upto_region 10 with(go_at_call 183;refine(uO _ _ gu).mono ?_;rintro e w1 ⟨rfl,rfl⟩)
 have e1:∀x:ExtOf (w.alloc (.cells #[.int .i64 10,.string ⟨(c).toArray⟩,.bool ng,.slice ra rs.length rc,.int .i64 lo,.int .i64 hi,.bool lz,.slice ka kn kc] 25)),x.val.cell? ⟨w.heap.size,0,none⟩=some (.int .i64 10):=ExtOf.cell gF;refine jS gE gE ?_;repeat (go_big_quiet_step ((fail)))
 refine wpQuiet_nil ?_;rintro _ ⟨xq,rfl⟩;go_wp2
 go_ret2
 refine⟨tf ?_,HB0.out.trans (xq.ext.mono gF)⟩;rw [HE.out];first|rfl|(simp;done)|(generalize lG d=x;first|(cases x<;>rfl)|(generalize lG u=y;cases x<;>cases y<;>rfl))):p:=h
theorem aC {p:Prop} (h:p:=by
 unfold rxc at HB0 hb0 c0 ⊢;try unfold rxc at hc
 try unfold rxc at hc'
 go_enter Tryz.func162,Tryz.ntmps162
 go_upto_region 10 with(go_at_call 183;refine(uO _ _ gu).mono ?_;rintro e w1 ⟨rfl,rfl⟩)
 have e1:∀x:ExtOf (w.alloc (.cells #[.int .i64 11,.string ⟨(c).toArray⟩,.bool ng,.slice ra rs.length rc,.int .i64 lo,.int .i64 hi,.bool lz,.slice ka kn kc] 25)),x.val.cell? ⟨w.heap.size,0,none⟩=some (.int .i64 11):=ExtOf.cell gF;refine jS gE gE ?_;repeat (go_big_quiet_step ((fail)))
 refine wpQuiet_nil ?_;rintro _ ⟨xq,rfl⟩;go_wp2
 go_ret2
 refine⟨tf ?_,HB0.out.trans (xq.ext.mono gF)⟩;rw [HE.out];first|rfl|(simp;done)|(generalize lG d=x;first|(cases x<;>rfl)|(generalize lG u=y;cases x<;>cases y<;>rfl))):p:=h
theorem aD {p:Prop} (h:p:=by
 have HE':Hid (R=none):=ab jC;clear hU HE;go_enter Tryz.func80,Tryz.ntmps80
 go_wp2_with (first|(go_at_call 79;refine(lI _ _ _ _ gu gu gF).mono ?_;rintro e w1 ⟨rfl,rfl⟩)|(go_at_call 117;refine(nA _ gu gu gu gu HU.out).mono ?_;rintro e w1 ⟨hb1,rfl⟩;obtain⟨hc1,hf1⟩:=qy hb1;have z0:w1.cell? ⟨w.heap.size,0,none⟩=some (.int .i64 0):= gv;have z1:w1.cell? ⟨w.heap.size,1,none⟩=some (.int .i64 0):= gv;have z2:w1.cell? ⟨w.heap.size,2,none⟩=some (.int .i64 0):= gv;have z3:w1.cell? ⟨w.heap.size,3,none⟩=some (.string ⟨#[]⟩):= gv;have z4:w1.cell? ⟨w.heap.size,4,none⟩=some (.string ⟨#[]⟩):= gv;have y0:w1.cell? ⟨w.heap.size+1,0,none⟩=some (.int .i64 4):= gv;have y1:w1.cell? ⟨w.heap.size+1,1,none⟩=some (.int .i64 ↑n):= gv;have y2:w1.cell? ⟨w.heap.size+1,2,none⟩=some (.int .i64 0):= gv;have y3:w1.cell? ⟨w.heap.size+1,3,none⟩=some (.string ⟨#[]⟩):= gv;have y4:w1.cell? ⟨w.heap.size+1,4,none⟩=some (.string ⟨#[]⟩):= gv;have hbw:Below w.heap.size w w1:=((((Below.refl w.heap.size w).alloc (Cp _) _).alloc gF _).trans (hb1.mono gH))))
 refine CJ (v:=.tuple #[.agg #[.int .i64 0,.int .i64 0,.int .i64 0,.string ⟨#[]⟩,.string ⟨#[]⟩],.int .i64 0,.bool false]) gW rfl ⟨?_,by rw [HE'.out];rfl⟩
 (repeat (first|with_reducible exact Below.refl _ _|with_reducible assumption|(refine Below.setCell ?_ gO _)|(refine Below.alloc ?_ gJ _)|(refine Below.drew ?_)))):p:=h
theorem aE {p:Prop} (h:p:=by
 by_cases hk0:0<k
 ·by_cases hn:n≤255
  ·have HF3:Hid (some (n,r)=R):=ab (by rw [←HF2.out,Cl ⟨hk0,hn⟩])
   have hnb:decide ((n:Int)≤255)=true:=by simp;omega
   clear HF2;go_wp2
   go_ret2
   exact⟨hg,by rw [←HF3.out];exact⟨rfl,hn,HRD.out⟩⟩
  ·have HF3:Hid (none=R):=ab (by rw [←HF2.out,Co (fun q=>hn q.2)])
   have hnb:decide ((n:Int)≤255)=false:=by simp;omega
   exact gi
 ·have HF3:Hid (none=R):=ab (by rw [←HF2.out,Co (fun q=>hk0 q.1)])
  exact gi):p:=h
theorem aF {p:Prop} (h:p:=by
 have HB:=ab hbv;have HR:Hid (R=false):=ab iA;clear hbv;go_enter Tryz.func91,Tryz.ntmps91
 go_wp2_with (go_at_call 122;refine(ma _ HB.out).mono ?_;rintro e w1 ⟨rfl,hb1,hc1⟩;have hq7:=hc1 ⟨w.heap.size,7,none⟩ (.slice ka (ks.length) kc) gF)
 go_ret
 exact⟨jU HR.out.symm,((Below.refl _ _).alloc (Cp _) _).trans (hb1.mono gF)⟩):p:=h
theorem aG {p:Prop} (h:p:=by
 obtain⟨k,hk,rfl,hr,hb,hlt⟩:=hrel;by_cases h2:k<l.length
 ·have hc:=hr.cell (j:=k) (c:=l[k]) (by rw [CD gH,List.getElem?_drop,CX,CK,show k+(k-min k l.length)=k by omega,Cn h2])
  have hf:=hr.free (j:=k) gH;have h256:=mE l[k];by_cases hl:97≤l[k].toNat∧l[k].toNat≤122
  ·obtain⟨hl1,hl2⟩:=hl
   have HS:=hr.set (j:=k) (qd l[k]);rw [pq qd l k h2] at HS;have hfe:qd l[k]=l[k]-32:=by unfold qd;rw [Cl ⟨hl1,hl2⟩]
   rw [hfe] at HS;have HS':=ab HS;clear HS hfe;generalize hx:l[k]=x at *
   have Hx:=ab hx;clear hx;go_wp2_with (fail)
   go_roundw
   case rel=>exact⟨k+1,by omega,by go_num,by have h:=HS'.out;rw [←sub32 x hl1 hl2] at h;exact h,hb.setCell (p:=⟨w.heap.size,k,none⟩) (Cp _) _,by simp [World.setCell];omega⟩
   case measure=>simp [intOf];omega
  ·have HM:=ab (xU qd l k h2 (by unfold qd;rw [Co hl]))
   have hr':=hr;rw [HM.out] at hr';have HR:=ab hr';clear hr hr';rcases(show l[k].toNat<97∨(97≤l[k].toNat∧122<l[k].toNat) by omega) with hl3|⟨hl3,hl4⟩
   ·exact eY
   ·exact eY
 ·have hkl:k=l.length:=gu
  exact fy):p:=h
theorem aH {p:Prop} (h:p:=by
 obtain⟨k,hk,rfl,hr,hb,hlt⟩:=hrel;by_cases h2:k<l.length
 ·have hc:=hr.cell (j:=k) (c:=l[k]) (by rw [CD gH,List.getElem?_drop,CX,CK,show k+(k-min k l.length)=k by omega,Cn h2])
  have hf:=hr.free (j:=k) gH;have h256:=mE l[k];by_cases hl:65≤l[k].toNat∧l[k].toNat≤90
  ·obtain⟨hl1,hl2⟩:=hl
   have HS:=hr.set (j:=k) (tB l[k]);rw [pq tB l k h2] at HS;have hfe:tB l[k]=l[k]+32:=by unfold tB;rw [Cl ⟨hl1,hl2⟩]
   rw [hfe] at HS;have HS':=ab HS;clear HS hfe;generalize hx:l[k]=x at *
   have Hx:=ab hx;clear hx;go_wp2_with (fail)
   go_roundw
   case rel=>exact⟨k+1,by omega,by go_num,by have h:=HS'.out;rw [←add32 x hl2] at h;exact h,hb.setCell (p:=⟨w.heap.size,k,none⟩) (Cp _) _,by simp [World.setCell];omega⟩
   case measure=>simp [intOf];omega
  ·have HM:=ab (xU tB l k h2 (by unfold tB;rw [Co hl]))
   have hr':=hr;rw [HM.out] at hr';have HR:=ab hr';clear hr hr';rcases(show l[k].toNat<65∨(65≤l[k].toNat∧90<l[k].toNat) by omega) with hl3|⟨hl3,hl4⟩
   ·exact eY
   ·exact eY
 ·have hkl:k=l.length:=gu
  exact fy):p:=h
theorem aI {p:Prop} (h:p:=by
 go_wp2_with (go_at_call 33;refine(lq w.heap.size _ acc _ _ il gu iv ju).mono ?_;rintro e w2 ⟨rfl,hbl2,hfr2⟩)
 go_roundw
 case rel =>
  refine⟨k+1,acc++thn,by omega,by go_num,hbl2,?_,ab ?_,ab ?_⟩
  ·exact fz
  ·exact fb
  ·exact fB
 case measure=>simp [intOf];omega):p:=h
theorem aJ {p:Prop} (h:p:=by
 clear HF';go_wp2
 all_goals first
  | (go_ret;refine⟨jU ?_,hb.alloc hB _⟩;rw [HQ.out];clear HQ HK HSl Hr HP c0 c1 c2 c3 c4;(try unfold mayF ly);simp;first|done|omega|(simp_all;done)|(simp_all;omega))
  | (go_roundw;(case rel=>exact⟨k+1,false,by omega,by go_num,hb.alloc hB _,ab ⟨fun h=>by omega,fun _ g hg=>by rw [show k+1-1=k from rfl,HK.out] at hg;injection hg with hg;subst hg;rfl⟩,ab gS⟩);(case measure=>simp [intOf];omega))):p:=h
theorem aK {p:Prop} (h:p:=by
 refine CJ (v:=.tuple #[.agg #[.int .i64 0,.int .i64 0,.int .i64 0,.string ⟨#[]⟩,.string ⟨#[]⟩],.int .i64 0,.bool false]) jm rfl ⟨?_,by rw [HE.out];rfl⟩
 (repeat (first|with_reducible exact Below.refl _ _|with_reducible assumption|(refine Below.setCell ?_ gO _)|(refine Below.alloc ?_ gJ _)|(refine Below.drew ?_)))):p:=h
theorem aL {p:Prop} (h:p:=by
 obtain⟨a0,c0,rfl⟩:=j7 hown;go_wp2_with (first|(go_at_call 136;refine(wj _ _ gu gu).mono ?_;rintro e w1 ⟨rfl,rfl⟩;rw [ud];first|rw [HW.out]|rw [HWP.out])|(at_builtin;refine kz w.heap.size 9 rfl _ _ 53 rfl Tryz.underlying53 hiu rfl gD rfl hown rfl gZ rfl gG gu gD hB ?_))
 intro v1 w1 ho1 hg1 hb1 hne1;obtain⟨ini,hini⟩:∃ini,ini=ws:=⟨_,rfl⟩;obtain⟨lst,hlst⟩:∃lst:Str,lst=[]:=⟨_,rfl⟩;have hoo:w1.ownsRow w.heap.size 9 1 v1 (ini.length+1) (kv (ini++[lst])):=by rw [hini,hlst];simpa [kv] using ho1
 rw [←hini,←hlst] at HE;rw [←hini] at HL hwl;have hll:lst.length≤i:=by rw [hlst];simp
 have HL2:Hid (∀x∈ini,x.length≤i):=HL;have hbo:Below w.heap.size w w1:=hb.trans (hb1.mono (Cp _));obtain⟨g,cap,rfl,hgB,hgl⟩:=World.ownsRow.form hoo gu;have hce:=hoo.cellAt ini.length gu;have hfz:=hoo.frozenAt ini.length;rw [show (kv (ini++[lst]))[ini.length]?=some (.string ⟨(lst).toArray⟩) by simp [kv]] at hce;have ho:=hoo;clear hini hlst hoo ho1 hg1 hne1 hown;go_wp2
 go_region
 go_wp2
 rw [HTK.out];go_roundw
 case rel =>
  exact eZ
 case measure=>simp [intOf];omega):p:=h
theorem aM {p:Prop} (h:p:=by
 have HF2:Hid (lc n (rows++nm) r1=R0):=ab (by rw [←HF.out];simp only [lc,ht,hit];rw [Cl hnm]);have HNM:=ab hnm;clear HF ht hit hrd hok hnm;go_wp2_with (go_at_call 143;refine(kj _ HRD.out HT.out gF).mono ?_)
 rintro e w3 ⟨rfl,hrd3,hq3⟩;have hgr3:=jM hg hq3;have hown3:=kq HOWN.out hq3 gu;have HRD3:=ab hrd3;clear hrd3 hq3;go_wp2_with (go_at_call 165;refine(lF _ HRD3.out).mono ?_)
 rintro e w4 hq;have hq4:=hq.1;have hqe:=hq.2;rw [HIT.out] at hqe;obtain⟨hrd4,hqe⟩:=hqe;rcases hqe with⟨q,_⟩|⟨_,a,k,rfl,hsl⟩
 ·exact absurd q HNM.out
 have hgr4:=jM hgr3 hq4;have hown4:=kq hown3 hq4 gu;have hlt4:=hown4.lt;obtain⟨va,vc,rfl⟩:=j7 hown4;have HOWN4:=ab hown4;have HSL:=ab hsl.sl;have HRD4:=ab hrd4;clear hq hq4 hsl hrd4 hown3 hown4;obtain⟨ir,hir⟩:=info_parts mm;have hz4:=hgr4.size;go_wp2_with (at_builtin;refine ke w2.heap.size 72 rfl _ _ 22 rfl Tryz.underlying22 hir rfl gD rfl (HOWN4.out) rfl (HSL.out) (lW nm) gu gu gD hz4 ?_)
 intro v5 w5 hown5 hq5 hb5 _;have hown6:w5.ownsRow w2.heap.size 72 2 v5 (rows++nm).length (jX (rows++nm)):=by
  rw [Cy,show jX (rows++nm)=jX rows++jX nm from by simp [jX]];exact hown5
 have hrd5:=HRD4.out.grownHi hq5 (fun k hk=>by have:=(hlt4 k hk).1;omega);have hgr5:w2.grownBy w5 (some g):=mT hgr4 hb5 gu;have hrl5:=qU HRL.out HI4.out;clear hown5 hq5 hb5;go_wp2
 go_roundg n
 case measure=>omega
 case rel=>exact⟨rows++nm,r1,hown6,hrd5,hgr5,by rw [Cy];omega,by omega,hrl5,HF2⟩):p:=h
theorem aN {p:Prop} (h:p:=by
 obtain⟨cap,w2,hcv,hrow,hb2,hsz⟩:=BRow.made (P:=Tryz.prog) wr (src:=9) (dst:=46) (d::ds) Tryz.underlying9 Tryz.underlying46 Tryz.underlying5;have hc:=hrow.cell (j:=0) (c:=d) rfl;have hf:=hrow.free (j:=0) gF;have h256:=mE d;have HS:=hrow.set (j:=0) (upB d);have hcv2:=HS.back (P:=Tryz.prog) (src:=46) (dst:=9) Tryz.underlying46 Tryz.underlying5 Tryz.underlying9 cap;simp only [List.set_cons_zero,Cr] at hcv hcv2;have hsz2:wr.heap.size<w2.heap.size:=gu;clear HS hsz hrow;go_wp2_with (go_at_call 109;refine(wG _ _ gu gu).mono ?_;rintro e w3 ⟨rfl,rfl⟩)
 go_roundw
 case rel=>exact⟨i+1,acc++(upB d::ds),by omega,by go_num,by simp,hb.trans ((hb2.setCell (p:=⟨wr.heap.size,0,none⟩) (Cp _) _).mono hB),ab (by rw [←HE2.out];simp)⟩
 case measure=>simp [intOf];omega):p:=h
theorem aO {p:Prop} (h:p:=by
 have HE6:Hid (R=some (⟨.mk k ch ng rs lo hii lz ks,fs,true,true⟩,r6)):=ab jG;clear HE5 hfl;go_wp2_with (go_at_call 25;refine(lv _ HIX.out).mono ?_;rintro e w4 ⟨rfl,rfl⟩)
 refine CJ (v:=.tuple #[.agg #[.int .i64 k,.string ⟨(ch).toArray⟩,.bool ng,.slice ra rs.length rc,.int .i64 lo,.int .i64 hii,.bool lz,.slice ka ks.length kc,.slice fa fs.length fcp,.bool true,.bool true],.int .i64 (j2+(m+1)),.bool true]) hJ rfl ⟨?_,?_⟩
 ·(repeat (first|with_reducible exact Below.refl _ _|with_reducible assumption|(refine Below.setCell ?_ gO _)|(refine Below.alloc ?_ gJ _)|(refine Below.drew ?_)))
 ·rw [HE6.out]
  refine⟨_,j2+(m+1),rfl,?_,by omega,by omega,HDR.out⟩;have hT:TfV w3 (fun b=>w.heap.size<b∧b<w3.heap.size) (rxc k ch ng ra rs.length rc lo hii lz ka ks.length kc++[.slice fa fs.length fcp,.bool true,.bool true]) ⟨.mk k ch ng rs lo hii lz ks,fs,true,true⟩ :=
   ⟨_,fa,fcp,HXV3.out.mono fun b hb hlt=>by have h1:=HLT.out;have h2:wr.heap.size≤b:=hb;constructor<;>omega,HSL.out.mono fun b hb hlt=>by have h2:(w1.alloc _).heap.size≤b:=hb;simp only [CL] at h2;constructor<;>omega,rfl⟩
  exact eO):p:=h
theorem aP {p:Prop} (h:p:=by
 rw [hres] at hq;obtain⟨hq8,rfl,r9,hrd9⟩:=hq;have HR2:Hid (Except.error q=R):=ab jL;have HR:=HR2;have hg8:=jM hg1 hq8;have HRD9:=ab hrd9;obtain⟨f0,f1,f2,f3,f4,f5,f6,f7,f8⟩:=jR (c:=[]) (jQ HBY1.out hq8 gu);clear hres hq8 hrd9;unfold rxv0;go_wp2
 refine CJ (v:=.tuple #[.agg #[.int .i64 0,.string ⟨([]).toArray⟩,.bool false,.slice none 0 0,.int .i64 0,.int .i64 0,.bool false,.slice none 0 0],.int .i64 q]) gT rfl ?_;refine⟨?_,?_⟩
 ·iterate 8 (refine jW ?_ gz _)
  exact hg8
 ·rw [←HR.out]
  exact eV):p:=h
theorem aQ {p:Prop} (h:p:=by
 go_wp2
 go_roundw
 case rel =>
  refine⟨k+1,acc++els,by omega,by go_num,?_,hb.alloc hB _,ab ?_,ab ?_⟩
  ·simp
  ·exact eW
  ·exact fo
 case measure=>simp [intOf];omega):p:=h
theorem aR {p:Prop} (h:p:=by
 iterate 8 (refine RxV.keep (Kept.setLow _ (fun b hb=>by have:w.heap.size≤b∧b≠w.heap.size:=hb;first|omega|(simp;done)|(simp;omega))) ?_)
 exact(RxV.close (SlS.none_ _ _ _ _) ⟨[],SlS.none_ _ _ _ _,.nil⟩)):p:=h
theorem aS {p:Prop} (h:p:=by
 have HR2:Hid (Except.error q=R):=ab (by rw [←HR.out];simp only [hpr]);have HR:=HR2;have hg5:=jM hgd hq5;have hby5:=jQ HBYD.out hq5 gu;have hb6:Below w5.heap.size w5 (w5.alloc (.cells #[.int .i64 0,.string ⟨#[]⟩,.bool false,.slice none 0 0,.int .i64 0,.int .i64 0,.bool false,.slice none 0 0] 25)):=(Below.refl _ _).alloc (Cp _) _;have hrd6:=hrd9.later hb6;have c6:=hrd6.cell2;have hf6:=hrd6.free2;have HRD7:=ab (hrd6.setDeep (.int .i64 (d:Int)));have hg7:=j9 (jM hg5 (jN hb6 (some g))) 2 (.int .i64 (d:Int));have ed:((d+1:Nat):Int)-1=d:=gu;have ne1:(q != 0)=true:=by simp [bne,hq0]
 obtain⟨f0,f1,f2,f3,f4,f5,f6,f7,f8⟩:=jR (c:=[]) (kg ((hb6.block _ (jO hby5)).trans hby5) (a:=⟨g,2,none⟩) gz (.int .i64 (d:Int)));clear hpr hby5 hrd9 hrd6 hb6;unfold rxv0;go_wp2
 refine CJ (v:=.tuple #[.agg #[.int .i64 0,.string ⟨([]).toArray⟩,.bool false,.slice none 0 0,.int .i64 0,.int .i64 0,.bool false,.slice none 0 0],.int .i64 q]) ig rfl ?_;refine⟨?_,?_⟩
 ·iterate 8 (refine jW ?_ gz _)
  exact hg7
 ·rw [←HR.out]
  refine⟨rfl,?_⟩;iterate 8 (refine RdE.setHi ?_ gz _)
  exact⟨_,HRD7.out⟩):p:=h
theorem aT {p:Prop} (h:p:=by
 rcases hq3 with⟨h1q,rfl⟩|⟨h1q,h2q,rfl⟩|⟨h1q,h2q,hnext⟩
 ·obtain⟨q1,fu2,o2⟩:=r
  obtain⟨⟨j,qs⟩,rfl⟩:=Option.isSome_iff_exists.1 h1q;clear h1q;go_enter Tryz.func134,Tryz.ntmps134
  go_upto_region 1 with fail
  go_region
  go_upto_region 2 with fail
  go_region
  go_wp2_with (go_at_call 108;refine((HQ).out _ hd2).mono ?_;rintro e w1 h9;obtain⟨a9,c9,rfl,h9⟩:=h9.some_)
  go_ret3
  exact h9
 ·obtain⟨q1,fu2,o2⟩:=r
  simp only at h1q h2q
  subst h1q;subst h2q;go_enter Tryz.func134,Tryz.ntmps134
  go_upto_region 1 with fail
  go_region
  go_upto_region 2 with fail
  go_region
  go_wp2_with (go_at_call 108;refine((HQ).out _ hd2).mono ?_;rintro e w1 h9;obtain⟨rfl,hr9,hf9⟩:=h9.none_;have c49:=hr9.c4;have HR9:=ab hr9;have HF9:=ab hf9;clear hr9 hf9 h9)
  go_ret3
  exact ResV.no HR9.out HF9.out
 ·obtain⟨q1,fu2,o2⟩:=q
  simp only at h1q h2q hnext
  subst h1q;subst h2q;have HN:=ab (HG fu2 hnext);clear hnext;go_enter Tryz.func134,Tryz.ntmps134
  go_upto_region 1 with fail
  go_region
  go_upto_region 2 with fail
  go_region
  go_wp2_with (go_at_call 108;refine((HQ).out _ hd2).mono ?_;rintro e w1 h9;obtain⟨rfl,hr9,hf9⟩:=h9.none_;have c49:=hr9.c4;have cr9:=RVC.out w1 hf9;have HC9:=ab (HN.out w1 hr9 hf9);clear hr9 hf9 h9)
  go_wp2_with (go_at_call 161;refine HC9.out.mono ?_;rintro e w9 ⟨x1,x2,x3,rfl,h9⟩)
  go_ret3
  exact h9):p:=h
theorem aU {p:Prop} (h:p:=by
 rcases hq3 with⟨h1q,rfl⟩|⟨h1q,h2q,rfl⟩|⟨h1q,h2q,hnext⟩
 ·obtain⟨q1,fu2,o2⟩:=r
  obtain⟨⟨j,qs⟩,rfl⟩:=Option.isSome_iff_exists.1 h1q;clear h1q;go_enter Tryz.func134,Tryz.ntmps134
  go_upto_region 1 with fail
  go_region
  go_upto_region 2 with fail
  go_region
  go_wp2_with (go_at_call 161;refine((HQ).out _ hd2).mono ?_;rintro e w1 h9;obtain⟨a9,c9,rfl,h9⟩:=h9.some_)
  go_ret3
  exact h9
 ·obtain⟨q1,fu2,o2⟩:=r
  simp only at h1q h2q
  subst h1q;subst h2q;go_enter Tryz.func134,Tryz.ntmps134
  go_upto_region 1 with fail
  go_region
  go_upto_region 2 with fail
  go_region
  go_wp2_with (go_at_call 161;refine((HQ).out _ hd2).mono ?_;rintro e w1 h9;obtain⟨rfl,hr9,hf9⟩:=h9.none_;have c49:=hr9.c4;have HR9:=ab hr9;have HF9:=ab hf9;clear hr9 hf9 h9)
  go_ret3
  exact ResV.no HR9.out HF9.out
 ·obtain⟨q1,fu2,o2⟩:=q
  simp only at h1q h2q hnext
  subst h1q;subst h2q;have HN:=ab (HG fu2 hnext);clear hnext;go_enter Tryz.func134,Tryz.ntmps134
  go_upto_region 1 with fail
  go_region
  go_upto_region 2 with fail
  go_region
  go_wp2_with (go_at_call 161;refine((HQ).out _ hd2).mono ?_;rintro e w1 h9;obtain⟨rfl,hr9,hf9⟩:=h9.none_;have c49:=hr9.c4;have cr9:=RVC.out w1 hf9;have HC9:=ab (HN.out w1 hr9 hf9);clear hr9 hf9 h9)
  go_wp2_with (go_at_call 108;refine HC9.out.mono ?_;rintro e w9 ⟨x1,x2,x3,rfl,h9⟩)
  go_ret3
  exact h9):p:=h
theorem aV {p:Prop} (h:p:=by
 have HF2:Hid (none=R0):=ab (by rw [←HF.out];simp only [lc,ht,hit]);have HR2:Hid (Except.error 10=R):=ab iJ;have HR:=HR2;have HIT:=ab hit;clear HF ht hit hrd hown hrl hok;go_wp2_with (go_at_call 143;refine(kj _ HRD.out HT.out gF).mono ?_)
 rintro e w3 ⟨rfl,hrd3,hq3⟩;have hgr3:=jM hg hq3;have HRD3:=ab hrd3;clear hrd3 hq3;go_wp2_with (go_at_call 165;refine(lF _ HRD3.out).mono ?_)
 rintro e w4 hq;have hq4:=hq.1;have hqe:=hq.2;rw [HIT.out] at hqe;obtain⟨hqe',r9,hrd9⟩:e=.returned (.tuple #[.string ⟨#[]⟩,.slice none 0 0,.int .i64 10])∧∃r,Rd w4 g r d:=hqe;subst hqe';have HRD9:=ab hrd9;clear hrd9;have hgr4:=jM hgr3 hq4;have hgw4:=jM hg2 hgr4;obtain⟨f0,f1,f2,f3,f4,f5,f6,f7,f8⟩:=jR (c:=[]) (jQ HBY2.out hgr4 gu);clear hq hq4;go_wp2
 refine CJ (v:=.tuple #[.agg #[.int .i64 0,.string ⟨([]).toArray⟩,.bool false,.slice none 0 0,.int .i64 0,.int .i64 0,.bool false,.slice none 0 0],.int .i64 10]) gP rfl ?_;refine⟨?_,?_⟩
 ·iterate 8 (refine jW ?_ gz _)
  exact hgw4
 ·rw [←HR.out]
  exact eV):p:=h
theorem aW {p:Prop} (h:p:=by
 have HE:Hid (Q=(false,kP st)):=ab (HM.out.trans (Co (fun h=>by omega)));have f12:∀x:ExtOf w2,x.val.cell? ⟨R.r,12,none⟩=some (.slice R.ca R.C.cs.length R.cc):=ExtOf.cell c12;have hkn2:decide (k<R.C.cs.length)=false:=CP gu;go_upto_region 26 with fail
 clear p0 p1 p2 p3 p4 p5 p6 p7 p8 p9 p10 c12;refine jS gE gE ?_;repeat (go_big_quiet_step ((fail)))
 refine wpQuiet_nil ?_;rintro _ ⟨xq,rfl⟩;have hxe:=xq.ext;have hre:=HR2.out.later hxe;have HRE:=ab hre;have HXE:=ab (Fx.below (R:=R) hxe);clear hxe hre;go_wp2
 go_ret
 rw [HE.out];exact⟨rfl,HRE.out,(HB1.out.trans HX2.out).trans HXE.out⟩):p:=h
theorem aX {p:Prop} (h:p:=by
 iterate 9 (refine RxV.keep (Kept.setLow _ (fun b hb=>by have:B≤b∧b≠w.heap.size+1∧b≠w.heap.size+3:=hb;first|omega|(simp;done)|(simp;omega))) ?_)
 exact(RxV.close (SlS.none_ _ _ _ _) HKS3.out)):p:=h
theorem aY {p:Prop} (h:p:=by
 obtain⟨i,d,hi,rfl,rfl,hd9,hb,HF⟩:=hrel;clear HR0;have hB:=hb.size;have z7:=jP hb _ _ Z7.out;cases hd:ks.drop i with
 | nil =>
  have h2:ks.length≤i:=gU;have HE:Hid (d=R):=ab (by rw [←HF.out,hd];simp [Rx.groupsL]);exact fU
 | cons y r =>
  obtain⟨h2,h3,hr⟩:=j6 hd;obtain⟨yk,yc,yn,yr,yl,yh,yz,ys⟩:=y;obtain⟨b,o,ya,yrc,yka,ykc,rfl,hS,hbB,_,_,hyv,c0,c1,c2,c3,c4,c5,c6,c7⟩:=(HX.out.later hb).cells h3;have hyp:=Rx.parts_mem (CF h3);have Hr:=ab hr;have HYV:=ab hyv;unfold rxc at HYV;have HE:Hid (d+(Rx.groups (.mk yk yc yn yr yl yh yz ys)+Rx.groupsL r)=R):=ab gY;have hle:d+Rx.groups (.mk yk yc yn yr yl yh yz ys)≤1000000:=by have:=HE.out;omega
  clear hd HF hr h3 hyv;go_wp2_with (go_at_call 107;refine(IH.out _ hyp _ _ HYV.out).mono ?_;rintro e w1 ⟨rfl,hb1⟩)
  go_roundw
  case rel=>exact⟨i+1,d+Rx.groups (.mk yk yc yn yr yl yh yz ys),by omega,by go_num,by go_num,by omega,hb.trans (hb1.mono hB),ab (by rw [Hr.out];have h:=HE.out;show d+Rx.groups (.mk yk yc yn yr yl yh yz ys)+Rx.groupsL r=R;omega)⟩
  case measure=>simp [intOf];omega):p:=h
theorem aZ {p:Prop} (h:p:=by
 have:=HF.out
 have hje:j=i:=gu;subst hje;cases k with
 | zero=>exact this.symm
 | succ k=>simp only [bs] at this;rw [Co gu] at this;exact this.symm):p:=h
theorem ba {p:Prop} (h:p:=by
 rw [hpr] at hq;obtain⟨hq5,rfl,r9,hrd9⟩:=hq;have hq0:q≠0:=nf _ _ _ q hpr;have HR2:Hid (Except.error q=R):=ab iV;have HR:=HR2;have hby5:=jQ HBY2.out hq5 gu;have hbl5:Below w.heap.size w w5:=ye hbw2 hq5 gu;have hz5:=hbl5.size;have hb6:Below w5.heap.size w5 (w5.alloc (.cells #[.int .i64 0,.string ⟨#[]⟩,.bool false,.slice none 0 0,.int .i64 0,.int .i64 0,.bool false,.slice none 0 0] 25)):=(Below.refl _ _).alloc (Cp _) _;have hbl6:=hbl5.trans (hb6.mono hz5);have ne1:(q==0)=false:=CM.2 hq0;have ne2:(q != 0)=true:=by simp [bne,ne1]
 obtain⟨f0,f1,f2,f3,f4,f5,f6,f7,f8⟩:=jR (c:=[]) ((hb6.block _ (jO hby5)).trans hby5);clear hpr hby5 hrd9 hb6 hq5;unfold rxv0;go_wp2
 refine CJ (v:=.tuple #[.agg #[.int .i64 0,.string ⟨([]).toArray⟩,.bool false,.slice none 0 0,.int .i64 0,.int .i64 0,.bool false,.slice none 0 0],.int .i64 q]) gX rfl ?_;refine⟨?_,?_⟩
 ·iterate 8 (refine Below.setCell ?_ gz _)
  exact hbl6
 ·rw [←HR.out];rfl):p:=h
theorem bc {p:Prop} (h:p:=by
 have c0:=jP hb0 _ _ (show w.cell? ⟨R.r,0,none⟩=some (.slice R.ca R.C.cs.length R.cc) by rw [Cv h.box];rfl);have c2:=jP hb0 _ _ (show w.cell? ⟨R.r,2,none⟩=some (.bool R.C.fold) by rw [Cv h.box];rfl);have hch:∀j,(R.C.cs.getD j []).length≤1000000:=fun j=>by
  exact eQ
 have HB0:=ab hb0;clear ok h hch c2;unfold rxc at HB0 hb0 c0 ⊢;go_enter Tryz.func162,Tryz.ntmps162
 go_wp2
 go_ret2
 exact⟨rfl,HB0.out⟩):p:=h
theorem bd {p:Prop} (h:p:=by
 go_ret
 exact⟨jU HR2.out.symm,((Below.refl _ _).alloc (Cp _) _).trans (hb1.mono gF)⟩):p:=h
theorem be {p:Prop} (h:p:=by
 have HR2:Hid (Except.error 10=R):=ab jw;have HR:=HR2;have HT:=ab ht;have HRD8:=HRD7;rw [hw6] at HRD8;have HW6:=ab hw6;clear hpr ht hw6;go_wp2_with (go_at_call 143;refine(kj _ HRD8.out HT.out gF).mono ?_)
 rintro e w9 ⟨rfl,hrd9,hq9⟩;rw [←HW6.out] at hq9;have hg9:=jM hg7 hq9;have HRD9:=ab hrd9;obtain⟨f0,f1,f2,f3,f4,f5,f6,f7,f8⟩:=jR (c:=[]) (jQ HBY7.out hq9 gu);clear hrd9 hq9 c6 hf6;go_wp2
 refine CJ (v:=.tuple #[.agg #[.int .i64 0,.string ⟨([]).toArray⟩,.bool false,.slice none 0 0,.int .i64 0,.int .i64 0,.bool false,.slice none 0 0],.int .i64 10]) ig rfl ?_;refine⟨?_,?_⟩
 ·iterate 8 (refine jW ?_ gz _)
  exact hg9
 ·rw [←HR.out]
  exact eV):p:=h
theorem bf {p:Prop} (h:p:=by
 go_enter Tryz.func159,Tryz.ntmps159
 go_wp2_with (go_at_call 182;refine(qR _ _ gu).mono ?_;rintro e w1 ⟨rfl,rfl⟩)
 go_ret
 exact⟨jU (by rw [HE.out];generalize (kind==10)=q;first|(cases q<;>rfl)|(generalize lG d=x;first|(cases q<;>cases x<;>rfl)|(generalize lG u=y;cases q<;>cases x<;>cases y<;>rfl))),rfl⟩):p:=h
theorem bg {p:Prop} (h:p:=by
 go_wp2
 go_roundw
 case rel =>
  refine⟨k+1,acc++thn,by omega,by go_num,?_,hb.alloc hB _,ab ?_,ab ?_⟩
  ·simp
  ·exact eW
  ·exact fo
 case measure=>simp [intOf];omega):p:=h
theorem bh {p:Prop} (h:p:=by
 go_wp2
 have hxs1:=HXS.out.later hbl1;refine CJ (v:=.tuple #[.agg #[.int .i64 k,.string ⟨(c).toArray⟩,.bool ng,.slice ra rs.length rc,.int .i64 lo,.int .i64 hi,.bool lz,.slice ka ks.length kc],.int .i64 0]) gL rfl ?_;refine⟨?_,?_⟩
 ·iterate 8 (refine jW ?_ gz _)
  exact hgw1
 rw [←HR.out];refine⟨rxc k c ng ra rs.length rc lo hi lz ka ks.length kc,rfl,RxV.mono (S:=fun b=>B≤b∧b≠w.heap.size+1∧b≠w.heap.size+3) (fun b hb _=>hb.1) ?_,?_⟩
 ·iterate 8 (refine RxV.keep (Kept.setLow _ (fun b hb=>by have:B≤b∧b≠w.heap.size+1∧b≠w.heap.size+3:=hb;first|omega|(simp;done)|(simp;omega))) ?_)
  exact hxs1
 ·iterate 8 (refine RdT.setHi ?_ gz _)
  exact HRD1.out):p:=h
theorem bi {p:Prop} (h:p:=by
 have hkl:k=l.length:=gu;subst hkl;have hcv2:=hr.back (P:=Tryz.prog) (src:=46) (dst:=9) Tryz.underlying46 Tryz.underlying5 Tryz.underlying9 cap;simp only [List.take_length,List.drop_length,C2,CX] at hcv2;go_wp2
 go_ret2
 exact⟨rfl,hb⟩):p:=h
theorem bj {p:Prop} (h:p:=by
 clear HR;go_enter Tryz.func57,Tryz.ntmps57
 go_wp2_with (go_at_call 92;refine(pJ ⟨_,n,cse,thn,els⟩ _ _ _ _ _).mono ?_;rintro e w1 ⟨rfl,hb1⟩)
 go_ret
 exact⟨jU HS.out.symm,((Below.refl _ _).alloc (Cp _) _).trans (hb1.mono gF)⟩):p:=h
theorem bk {p:Prop} (h:p:=by
 go_wp2_with (refine kE rfl 51 (.tmp 4) (.tmp 28) rfl (w.heap.size) (#[.int .i64 0,.int .i64 0,.slice none 0 0]) rfl rfl 51 _ (HX4.out) (kK) rfl rfl (gG) (W:=(w4.setRow w.heap.size #[.int .i64 0,.int .i64 0,.slice none 0 0])) (rfl) ?_)
 refine CJ (nH Tryz.results97 lJ kK HRES.out rfl rfl rfl) rfl ?_;rw [HE.out];exact⟨HJ4.out.gx (qD w4 w.heap.size _) (Nat.ne_of_lt hlr) (fun k hk e=>absurd (hlp k hk) io) (fun b hb e=>absurd (HX.out.lt b hb) gR),HG4.out.to (qD w4 w.heap.size _) (fun b hb e=>absurd hb gR),rfl⟩):p:=h
theorem bl {p:Prop} (h:p:=by
 refine jS gE gE ?_;repeat (go_big_quiet_step ((go_at_call 158;exact ku (HTX.out _))))
 refine wpQuiet_nil ?_;rintro _ ⟨xq,rfl⟩;have hxe:=xq.ext;have hre:=HR2.out.later hxe;have HRE:=ab hre;have HXE:=ab (Fx.below (R:=R) hxe);clear hxe hre;go_wp2
 go_ret
 rw [HE.out];exact⟨rfl,HRE.out,(HB1.out.trans HX2.out).trans HXE.out⟩):p:=h
theorem bm {p:Prop} (h:p:=by
 have HO:Hid (okB (.mk k c ng rs lo hi lz ks) left dp=false):=ab (by
  rw [xN,hG];rcases hld with h|h
  ·rw [CP (by omega:¬1≤left)];rfl
  ·simp;omega)
 clear hF;go_enter Tryz.func56,Tryz.ntmps56
 go_wp2_with (first|(go_at_call 90;refine(pC _ _).mono ?_;rintro e w1 ⟨rfl,rfl⟩;rw [hG])|(go_at_call 91;refine(pS _ HF.out HRS.out HX0.out HS1.out).mono ?_;rintro e w1 ⟨rfl,hb1,hc1⟩;have z1:=hc1 ⟨w.heap.size,7,none⟩ (.slice ka ks.length kc) gF))
 all_goals first
  | (exfalso;omega)
  | (go_ret2;refine⟨⟨left,by rw [HO.out];rfl,fun h=>by rw [HO.out] at h;cases h⟩,?_⟩;first|exact(Below.refl _ _).alloc (Cp _) _|exact((Below.refl _ _).alloc (Cp _) _).trans (hb1.mono gF))):p:=h
theorem bn {p:Prop} (h:p:=by
 have hkm:k=ms.length:=gu;subst hkm;have hkl:¬((ms.length:Int)<(ms.length:Int)):=gu;have HG2:Hid (G=some (at_,out)):=ab (by rw [←HF9.out,List.drop_length];rfl);have hol2:=hol.out;clear HF9 hfrom hol hb;have hi2:(at_:Int)≤(s.length:Int):=gu;by_cases hbig:65536<out.length+(s.length-at_)
 ·have hbi:(65536:Int)<(out.length:Int)+(s.length:Int)-(at_:Int):=gu
  go_wp2
  go_ret3
  exact⟨by rw [HRG.out,HG2.out,endG,Cl hbig];rfl,bel2 HB9.out HBR.out⟩
 ·have hbi:¬(65536:Int)<(out.length:Int)+(s.length:Int)-(at_:Int):=gu
  have z4:¬9223372036854775807<out.length+(s.length-at_):=gu;go_wp2
  go_ret3
  exact⟨by rw [HRG.out,HG2.out,endG,Co hbig];rfl,bel2 HB9.out HBR.out⟩):p:=h
theorem bq {p:Prop} (h:p:=by
 go_wp2
 refine jS gE gE ?_;repeat (go_big_quiet_step (((go_at_call 104;first|exact ku (mj _ HP1.out gu)|exact ku (mj _ HP2.out gu)))))
 refine wpQuiet_nil ?_;rintro _ ⟨xq,rfl⟩;go_wp2
 go_ret
 exact⟨jU HE.out.symm,(hb.alloc hB _).trans (xq.ext.mono gH)⟩):p:=h
theorem br {p:Prop} (h:p:=by
 refine wpQuiet_nil ?_;rintro _ ⟨xq,rfl⟩;rw [HO2.out];have HBQ:=ab (bel2 HBR.out xq.ext);have r1q:=r1 xq;clear r0 r1 r2 HPUT z1 z2 z3 hPL hb hol hat hi1 hi2 HO2;by_cases hbig:65536<O2.length
 ·have HG2:Hid (G=none):=ab (by rw [HSTEP.out,Cl hbig])
  have hbi:(65536:Int)<(O2.length:Int):=gu;clear HSTEP;go_wp2
  go_ret3
  exact⟨by rw [HRG.out,HG2.out];rfl,bel2 HB9.out HBQ.out⟩
 ·have HG2:Hid (goV s offs fs (ms.drop (k+1)) p2 O2=G):=ab (by rw [HSTEP.out,Co hbig])
  have hbi:¬(65536:Int)<(O2.length:Int):=gu;clear HSTEP;go_wp2
  exact⟨⟨k+1,p2,O2,hlt,rfl,rfl,rfl,HBQ.out,hp2s,ab gu,HQ4,HG2⟩,by simp only [intOf];omega⟩):p:=h
theorem bu {p:Prop} (h:p:=by
 clear hneg hL;go_enter Tryz.func3,Tryz.ntmps3
 go_upto_region 1 with fail
 rw [←HW0.out];clear HW0;go_wp2_with (first
  | (refine kF rfl 28 (.tmp 3) rfl w.heap.size 0 rfl [.int .i64 rk,.string ⟨(rch).toArray⟩,.bool rng,.slice ra rrs.length rcp,.int .i64 rlo,.int .i64 rhi,.bool rlz,.slice rka rks.length rkc,.slice fa fs.length fcp,.bool fd,.bool al] _ (kJ (ds:=[]) HB1.out) lm rfl iq ?_)
  | (go_at_call 5;refine HLF.out.mono ?_;first|rintro e w1 rfl hb1|rintro e w1 ⟨rfl,hb1⟩)
  | (go_at_call 6;refine(BI _).mono ?_;first|rintro e w9 rfl hb9|rintro e w9 ⟨rfl,hb9⟩))
 go_ret
 exact⟨rfl,bel2 (bel2 HB0.out hb1) hb9⟩):p:=h
theorem bw {p:Prop} (h:p:=by
 have HF:=ab hF;have HO:Hid (okB (.mk k c ng rs lo hi lz ks) left dp=false):=ab (by rw [xN,hF];simp);clear hF;go_enter Tryz.func56,Tryz.ntmps56
 go_wp2_with (first|(go_at_call 90;refine(pC _ _).mono ?_;rintro e w1 ⟨rfl,rfl⟩;rw [hG])|(go_at_call 91;refine(pS _ HF.out HRS.out HX0.out HS1.out).mono ?_;rintro e w1 ⟨rfl,hb1,hc1⟩;have z1:=hc1 ⟨w.heap.size,7,none⟩ (.slice ka ks.length kc) gF))
 all_goals
  (go_ret2;refine⟨⟨left,by rw [HO.out];rfl,fun h=>by rw [HO.out] at h;cases h⟩,?_⟩;first|exact(Below.refl _ _).alloc (Cp _) _|exact((Below.refl _ _).alloc (Cp _) _).trans (hb1.mono gF))):p:=h
theorem bx {p:Prop} (h:p:=by
 clear ok h hch hd hca;unfold rxc at HB0 hb0 c0 c2 hc ⊢;go_enter Tryz.func162,Tryz.ntmps162
 go_upto_region 19 with fail
 have e1:∀x:ExtOf (w.alloc (.cells #[.int .i64 2,.string ⟨(c).toArray⟩,.bool ng,.slice ra rs.length rc,.int .i64 lo,.int .i64 hi,.bool lz,.slice ka kn kc] 25)),x.val.cell? ⟨w.heap.size,1,none⟩=some (.string ⟨(c).toArray⟩):=ExtOf.cell gF;have e2:=ExtOf.cell c2;refine jS gE gE ?_;repeat (go_big_quiet_step ((fail)))
 refine wpQuiet_nil ?_;rintro _ ⟨xq,rfl⟩;go_wp2
 go_ret2
 refine⟨tf ?_,HB0.out.trans (xq.ext.mono gF)⟩;rw [HE.out];first|done|rfl):p:=h
theorem bA {p:Prop} (h:p:=by
 go_wp2_with (go_at_call 33;refine(lq w.heap.size _ acc _ _ il gu iv ju).mono ?_;rintro e w2 ⟨rfl,hbl2,hfr2⟩)
 go_roundw
 case rel =>
  refine⟨k+1,acc++p,by omega,by go_num,hbl2,?_,ab ?_,ab ?_⟩
  ·exact fz
  ·exact fb
  ·exact fB
 case measure=>simp [intOf];omega):p:=h
theorem bB {p:Prop} (h:p:=by
 refine wpQuiet_nil ?_;rintro _ ⟨xq,rfl⟩;cases hL1:leS f t' with
 | true =>
  have HE:Hid (R=false):=ab (by rw [←HF'.out,HPJ.out];simp only [pM];rw [HB.out,hL1];rfl);exact fY
 | false =>
  have HL:=ab hL1;go_wp2
  go_roundw
  case rel=>exact⟨j+1+1,some t,by omega,by go_num,(hb.alloc hB _).trans (xq.ext.mono gH),ab (.inr ⟨j+1,(f,t),rfl,HE3.out,rfl⟩),ab (by rw [Hr.out,←HF'.out,HPJ.out];simp only [pM];rw [HB.out,HL.out];rfl)⟩
  case measure=>simp [intOf];omega):p:=h
theorem bC {p:Prop} (h:p:=by
 obtain⟨t,rfl,rfl⟩:=hq;obtain⟨f0,f1,f2,f3,f4,f5,f6,f7,f8⟩:=jR (c:=[]) HBY1.out;go_wp2
 refine CJ (v:=.tuple #[.agg #[.int .i64 0,.string ⟨([]).toArray⟩,.bool false,.slice none 0 0,.int .i64 0,.int .i64 0,.bool false,.slice none 0 0],.int .i64 10]) gN rfl ?_;refine⟨?_,?_⟩
 ·iterate 8 (refine jW ?_ gz _)
  exact hg1
 ·rw [←HR.out]
  exact fA):p:=h
theorem bD {p:Prop} (h:p:=by
 go_wp2
 all_goals first
  | (go_ret;refine⟨jU ?_,hb.alloc hB _⟩;rw [HQ.out];clear HQ HK HSl Hr HP c0 c1 c2 c3 c4;(try unfold mayF ly);simp;first|done|omega|(simp_all;done)|(simp_all;omega))
  | (go_roundw;(case rel=>exact⟨k+1,true,by omega,by go_num,hb.alloc hB _,ab ⟨fun h=>by omega,fun _ g hg=>by rw [show k+1-1=k from rfl,HK.out] at hg;injection hg with hg;subst hg;rfl⟩,ab gS⟩);(case measure=>simp [intOf];omega))):p:=h
theorem bE {p:Prop} (h:p:=by
 go_region_law (refine si w.heap.size 5 (w:=wr.drew) rfl rfl _ _ 46 rfl Tryz.underlying46 hiu rfl gD rfl k3 rfl gZ rfl gG gu gD hB ?_;intro v1 w2 hown1 hg1 _ _;obtain⟨a1,c1,rfl,d1,d2,hrs1,hbl1⟩:=RS.text_app (w:=wr.drew) hrs k1 hown1 hg1 hB)
 all_goals
  go_wp2
  go_roundw
  case rel =>
   refine⟨j+1,tx++[c],fs,by omega,by omega,by go_num,hrs1,Below.trans hb.drew hbl1,by simp;omega,by omega,ab jv,HLO,ab ?_⟩;rw [Hr.out,←HE.out]
  case measure=>simp [intOf];omega):p:=h
theorem bF {p:Prop} (h:p:=by
 iterate 9 (refine RdT.setHi ?_ gz _)
 exact HRD3.out):p:=h
theorem bG {p:Prop} (h:p:=by
 iterate 9 (refine jW ?_ gz _)
 exact hgw3):p:=h
theorem bH {p:Prop} (h:p:=by
 exact⟨a,m,b,by first|rfl|go_num|(simp;omega),by first|rfl|go_num|(simp;omega),by omega,by omega,by omega,by omega,HRO.out,kD _ _,HT⟩):p:=h
theorem bI {p:Prop} (h:p:=by
 subst hij2;clear HF hk hi hj;go_wp2_with (go_at_call 198;refine(HC1.out _ hro).mono ?_)
 first|rintro e w6 rfl hr6 hh6|rintro e w6 ⟨rfl,hr6,hh6⟩
 have hg6:=jM hg hh6;clear hh6;go_wp2_with (go_at_call 197;refine(HC2.out _ hr6).mono ?_)
 first|rintro e w7 rfl hr7 hh7|rintro e w7 ⟨rfl,hr7,hh7⟩
 have hg7:=jM hg6 hh7;clear hh7;go_wp2_with (go_at_call 197;refine(HC3.out _ hr7).mono ?_)
 first|rintro e w8 rfl hr8 hh8|rintro e w8 ⟨rfl,hr8,hh8⟩
 have hg8:=jM hg7 hh8;clear hh8;go_wp2
 go_end0
 exact⟨rfl,hr8,hg8⟩):p:=h
theorem bJ {p:Prop} (h:p:=by
 go_roundw
 case rel=>exact⟨k+1,by omega,by go_num,HS'.out,hb.setCell (p:=⟨w.heap.size,k,none⟩) (Cp _) _,by simp [World.setCell];omega⟩
 case measure=>simp [intOf];omega):p:=h
theorem bK {p:Prop} (h:p:=by
 clear hd HS hr c47 c92;go_wp2_with (at_builtin;refine kz w.heap.size 5 rfl _ _ 46 rfl Tryz.underlying46 hiu rfl gD rfl hown rfl gZ rfl gG gu gD hB ?_;intro v1 w1 hown1 hg1 hb1 hne1)
 go_roundw
 case rel =>
  refine⟨(j+1),(a++[c]),by omega,by omega,by go_num,?_,?_,hb.trans hb1,by simp;omega,HS2⟩
  ·simpa [kR] using hown1
  ·exact gd
 case measure=>simp [intOf];omega):p:=h
theorem bL {p:Prop} (h:p:=by
 unfold Oper.wp at *;generalize (execOp a.eval o).run P w=r at *
 cases r with
 | ok n w' =>
  cases n<;>simp only [Oper.upon] at h ⊢<;>first|exact h|exact h.mono (fun e w'' he=>by cases e<;>exact he)
 | halt x w'=>cases x<;>simp only [Oper.upon] at h ⊢<;>exact h):p:=h
theorem bM {p:Prop} (h:p:=by
 intro hk;have h1:=ih gu;obtain⟨ok,hok⟩:∃ok,ops[t-k]?=some ok:=⟨_,Cn gu⟩;have h2:=ue hch (t:=t-k) gu (by simpa using hok) (hclo _ ok (by simpa using hok) h1);rw [show t-(k+1)=t-k-1 by omega];exact h2):p:=h
theorem bN {p:Prop} (h:p:=by
 go_wp2_with (go_at_call 159;refine HS.out.mono ?_)
 first|rintro x w' rfl rfl|rintro x w' ⟨rfl,rfl⟩
 go_wp2
 go_ret
 rw [HE.out];exact⟨rfl,HR2.out,HB1.out.trans HX2.out⟩):p:=h
theorem bO {p:Prop} (h:p:=by
 refine⟨rxc yk yc yn ya yr.length yrc yl yh yz yka ys.length ykc,rfl,RxV.mono (S:=fun b=>w.heap.size+1≤b) (fun b hb _=>by have:w.heap.size+1≤b:=hb;show w.heap.size≤b;omega) (RxV.close ?_ ?_),?_⟩
 ·iterate 8 (refine SlS.keep ?_ (Kept.setLow _ (fun b hb=>by have:w.heap.size+1≤b:=hb;simp;omega)))
  exact HYR.out
 ·iterate 8 (refine RxSl.keep ?_ (Kept.setLow _ (fun b hb=>by have:w.heap.size+1≤b:=hb;simp;omega)))
  exact HYX.out
 ·iterate 8 (refine Below.setCell ?_ gF _)
  exact hbw1):p:=h
theorem bP {p:Prop} (h:p:=by
 go_ret
 exact⟨jU HR2.out.symm,(((Below.refl _ _).alloc (Cp _) _).trans (hb1.mono gF)).trans ((((Below.refl w1.heap.size w1).alloc (Cp _) _).trans (hb2.mono gF)).mono js)⟩):p:=h
theorem bQ {p:Prop} (h:p:=by
 iterate 8 (refine RxV.keep (Kept.setLow _ (fun b hb=>by have:w.heap.size≤b∧b≠w.heap.size:=hb;first|omega|(simp;done)|(simp;omega))) ?_)
 exact HV.out):p:=h
theorem bR {p:Prop} (h:p:=by
 go_enter Tryz.func134,Tryz.ntmps134
 go_upto_region 1 with fail
 go_region
 go_upto_region 2 with fail
 go_region
 go_wp2_with (go_at_call 161;refine((HT).out _ hd2).mono ?_;rintro e w1 ⟨x1,x2,x3,rfl,h9⟩)
 go_ret3
 exact h9):p:=h
theorem bS {p:Prop} (h:p:=by
 exact⟨LO,M,b,by first|rfl|go_num|(simp;omega),by first|rfl|go_num|(simp;omega),by omega,by omega,by omega,by omega,HRO.out,kD _ _,HT⟩):p:=h
theorem bT {p:Prop} (h:p:=by
 go_wp2_with (refine kE rfl 51 (.tmp 4) (.tmp 32) rfl (w.heap.size) (#[.int .i64 0,.int .i64 0,.slice none 0 0]) rfl rfl 51 _ (HXB.out) (kK) rfl rfl (gG) (W:=(wr.setRow w.heap.size #[.int .i64 0,.int .i64 0,.slice none 0 0])) (rfl) ?_)
 refine CJ (nH Tryz.results59 lJ kK HRE.out rfl rfl rfl) rfl ?_;rw [←HE.out];exact⟨HJE.out,HGE.out,rfl⟩):p:=h
theorem bU {p:Prop} (h:p:=by
 iterate 8 (refine jW ?_ gz _)
 exact hg2):p:=h
theorem bV {p:Prop} (h:p:=by
 have hge:ks.length≤j:=gU;have HE:Hid (R=F2):=ab (by rw [←HG.out,hd];rfl);clear hd HG;have hbw:=hbbk;cases bb
 all_goals
  go_wp2_with (go_at_call 103;refine(nN _ HB.out).mono ?_;rintro e w1 ⟨rfl,hb1,_⟩)
  go_ret
  refine⟨jU ?_,hbw.trans (hb1.mono hbw.size)⟩;rw [HE.out,←HF2.out];first|rfl|(clear HE HF2;simp;done)|(clear HE HF2;rw [Bool.eq_iff_iff];simp;omega)):p:=h
theorem bW {p:Prop} (h:p:=by
 first|rintro x w' rfl hr hx|rintro x w' ⟨rfl,hr,hx⟩
 go_wp2
 go_ret
 rw [HE.out];exact⟨rfl,hr,(HB1.out.trans HX2.out).trans hx⟩):p:=h
theorem bX {p:Prop} (h:p:=by
 have hl3:0≤l':=by omega
 have hl4:l'≤100000:=gu;have HE4:Hid (l'-Rx.partsL r=tot):=ab (by rw [hl2];exact HE2.out);clear hl' hl2;go_wp2
 go_roundw
 case rel=>exact⟨i+1,l',by omega,by go_num,rfl,hl3,hl4,(hb.alloc hB _).trans (hb2.mono gH),ab jK,ab (by rw [Hr.out];exact HE4.out)⟩
 case measure=>simp [intOf];omega):p:=h
theorem bY {p:Prop} (h:p:=by
 simp only [mzV];go_wp2_with (refine kE rfl 60 (.tmp 12) (.tmp 41) rfl (w1.heap.size) (#[.int .i64 0,.int .i64 0,.slice none 0 0]) rfl rfl 60 _ (HM3.out) (kl) rfl rfl (gG) (W:=(w3.setRow w1.heap.size #[.int .i64 0,.int .i64 0,.slice none 0 0])) (rfl) ?_)
 go_ret3
 exact⟨by rw [HR2.out];rfl,below_setRow HB3.out hz1 _⟩):p:=h
theorem bZ {p:Prop} (h:p:=by
 show Calls Tryz.prog 178 #[.int .i64 (e:Int),.pointer (some ⟨b3,0,none⟩),.pointer (some ⟨b4,0,none⟩),.pointer (some ⟨b2,0,none⟩),.pointer (some ⟨b1,0,none⟩),.pointer (some ⟨b5,0,none⟩)] w _
 go_enter Tryz.func178,Tryz.ntmps178
 go_wp2_with (go_at_call 155;refine HC.out.mono ?_)
 rintro x w' ⟨rfl,hr,hx⟩;go_wp2
 go_ret
 exact⟨rfl,hr,hx⟩):p:=h
theorem b7 {p:Prop} (h:p:=by
 exact⟨0,by omega,rfl,by simpa using hrow,hb0,by omega⟩):p:=h
theorem b8 {p:Prop} (h:p:=by
 iterate 8 (refine SlS.keep ?_ (Kept.setLow _ (fun b hb=>by have:w.heap.size+1≤b:=hb;simp;omega)))
 exact SlS.none_ _ _ _ _):p:=h
theorem cd {p:Prop} (h:p:=by
 have e3:(hi==-1)=false:=by rw [CM];exact g3
 have e4:(hi != -1)=true:=by rw [bne_iff_ne];exact g3
 have G3:=ab g3;clear g3;go_enter Tryz.func106,Tryz.ntmps106
 go_wp2_with fail
 all_goals first
  | (go_ret;exact⟨jU HS.out.symm,HQ.out⟩)
  | (exfalso;have:=G3.out;omega)
  | (exfalso;have:=G3.out;simp_all;omega)):p:=h
theorem ce {p:Prop} (h:p:=by
 iterate 8 (refine RdT.setHi ?_ gz _)
 exact HRD3.out):p:=h
theorem cf {p:Prop} (h:p:=by
 go_enter Tryz.func134,Tryz.ntmps134
 go_upto_region 1 with fail
 go_region
 go_upto_region 2 with fail
 go_region
 go_wp2_with (go_at_call 108;refine(HQ.out _ hd2).mono ?_;rintro e w1 h9;obtain⟨rfl,hr9,hf9⟩:=h9.none_;have c49:=hr9.c4;have HR9:=ab hr9;have HF9:=ab hf9;clear hr9 hf9 h9)
 go_ret3
 exact ResV.no HR9.out HF9.out):p:=h
theorem cg {p:Prop} (h:p:=by
 iterate 8 (refine jW ?_ gz _)
 exact hg3):p:=h
theorem ci {p:Prop} (h:p:=by
 refine wpQuiet_nil ?_;rintro _ ⟨xq,rfl⟩;go_wp2
 go_roundw
 case rel=>exact⟨k+1,some t,by omega,by go_num,(hb.alloc hB _).trans (xq.ext.mono gH),ab (.inr ⟨k,(f,t),rfl,HE3.out,rfl⟩),ab (by rw [Hr.out,←HF'.out];simp only [pM];rw [HB.out];simp [HL.out])⟩
 case measure=>simp [intOf];omega):p:=h
theorem cj {p:Prop} (h:p:=by
 have h2:ks.length≤i:=gU;have HE:Hid (R=true):=ab (by rw [←HL.out,hd,okL_nil hl0 hd0]);have HE2:Hid (l=tot):=ab (by rw [←HTL.out,hd];simp [Rx.partsL]);clear hd HL HTL;go_wp2
 go_ret2
 exact⟨⟨l,by rw [HOR.out,HE.out];rfl,fun _=>by rw [HE2.out,←HTT.out]⟩,hbw1.trans (hb.mono hz1)⟩):p:=h
theorem ck {p:Prop} (h:p:=by
 go_enter Tryz.func188,Tryz.ntmps188
 go_wp2_with (go_at_call 195;refine(zZ _ _).mono ?_;rintro e w1 ⟨rfl,rfl⟩)
 go_ret
 exact⟨lD HE.out.symm,rfl⟩):p:=h
theorem cl {p:Prop} (h:p:=by
 refine wpQuiet_nil ?_;rintro _ ⟨xq,rfl⟩;go_wp2
 go_ret
 exact⟨rfl,HB0.out.trans (xq.ext.mono gF)⟩):p:=h
theorem cm {p:Prop} (h:p:=by
 go_enter Tryz.func168,Tryz.ntmps168
 go_wp2
 go_ret2
 exact⟨rfl,rfl⟩):p:=h
theorem cn {p:Prop} (h:p:=by
 first|rintro x w' rfl hr hx|rintro x w' ⟨rfl,hr,hx⟩
 go_wp2
 go_ret
 rw [HE.out];exact⟨rfl,hr,(HB1.out.trans HX2.out).trans (HXE.out.trans hx)⟩):p:=h
theorem cq {p:Prop} (h:p:=by
 clear hB;go_enter Tryz.func57,Tryz.ntmps57
 go_wp2_with (go_at_call 92;refine(pJ ⟨_,n,cse,thn,els⟩ _ _ _ _ _).mono ?_;rintro e w1 ⟨rfl,hb1⟩)
 go_ret
 refine⟨jU ?_,((Below.refl _ _).alloc (Cp _) _).trans (hb1.mono gF)⟩;rw [HS.out,hB'];simp):p:=h
theorem cr {p:Prop} (h:p:=by
 have h2:ws.length≤i:=gU;have HE:Hid (acc=R):=ab (by
  rw [←HF.out];unfold qL;by_cases h0:i=0
  ·subst h0;rw [C0] at hd;rw [hd];simp [ql]
  ·rw [Co h0,hd];simp)
 clear hd HF;go_wp2
 go_ret2
 exact⟨by rw [HE.out];rfl,hbb⟩):p:=h
theorem cu {p:Prop} (h:p:=by
 cases bb
 all_goals
  go_wp2_with (go_at_call 103;refine(nN _ HB.out).mono ?_;rintro e w1 ⟨rfl,hb1,_⟩)
  go_ret
  refine⟨jU ?_,bel2 hbb hb1⟩;rw [HE.out];first|rfl|(clear HE;rw [Bool.eq_iff_iff];simp;done)|(clear HE;rw [Bool.eq_iff_iff];simp;omega)):p:=h
theorem cw {p:Prop} (h:p:=by
 go_wp2
 go_ret
 exact⟨rfl,rfl⟩):p:=h
theorem cx {p:Prop} (h:p:=by
 iterate 8 (refine RdT.setHi ?_ gz _)
 exact HRD2.out):p:=h
theorem cz {p:Prop} (h:p:=by
 go_wp2_with (go_at_call 46;refine HS.out.mono ?_)
 rintro e w1 ⟨rfl,hst⟩;obtain⟨i,hi,c1,hf,hr⟩:=(hst.rd HR.out).step;have HR1:=ab hr;clear hr;unfold hdS;go_wp2
 go_ret
 exact⟨rfl,HR1.out,wl hst (j9 (kD _ _) _ _)⟩):p:=h
theorem cA {p:Prop} (h:p:=by
 go_enter Tryz.func183,Tryz.ntmps183
 go_wp2_with (first|(go_at_call 189;refine(HL.out _).mono ?_;rintro e w1 ⟨rfl,rfl⟩)|(go_at_call 121;refine(HD.out _).mono ?_;rintro e w1 ⟨rfl,rfl⟩))
 go_ret
 exact⟨jU (by rw [←HR2.out];rfl),rfl⟩):p:=h
theorem cB {p:Prop} (h:p:=by
 split at h
 ·rename_i heq
  have:=nk _ _ _ heq
  exact fN
 ·cases h):p:=h
theorem cC {p:Prop} (h:p:=by
 go_upto_region 8 with fail
 rw [←HW5.out];go_wp2
 go_ret3
 refine⟨HB5.out,.inr (.inl ⟨HMB.out,?_,rfl⟩)⟩;rw [HQF.out,←HF.out];rcases HEND.out with⟨h1,_⟩|⟨a,b,ps,h1,_⟩
 ·rw [h1];exact HOO.out
 ·rw [h1];simp only [HOO.out,if_true]):p:=h
theorem cD {p:Prop} (h:p:=by
 rw [hdr];conv=>lhs;unfold goV
 rw [hp1,hp2,hPQ,CU];show (if 65536<(out++(kZ s at_ p1++PP)).length then none else goV s offs fs (ms.drop (k+1)) p2 (out++(kZ s at_ p1++PP)))=_
 rw [show out++(kZ s at_ p1++PP)=O2 from hO2]):p:=h
theorem cE {p:Prop} (h:p:=by
 go_roundw
 case rel =>
  refine⟨j+1,tx++[c],by omega,by omega,by go_num,?_,hb.trans hb1,by simp;omega,by simp;omega,?_⟩
  ·simpa [kR] using hown1
  ·exact ab (by rw [Hr.out,←HS.out];exact HF'.out)
 case measure=>simp [intOf];omega):p:=h
theorem cF {p:Prop} (h:p:=by
 clear ho1 hg1 hmv;go_wp2
 go_roundw
 case rel=>exact⟨i+1,by omega,by go_num,hb4',hox4⟩
 case measure=>simp [intOf];omega):p:=h
theorem cG {p:Prop} (h:p:=by
 subst hij2;clear HF hk hi hj;go_wp2_with (go_at_call 198;refine(HC1.out _ hro).mono ?_)
 first|rintro e w6 rfl hr6 hh6|rintro e w6 ⟨rfl,hr6,hh6⟩
 have hg6:=jM hg hh6;clear hh6;go_wp2
 go_end0
 exact⟨rfl,hr6,hg6⟩):p:=h
theorem cH {p:Prop} (h:p:=by
 iterate 8 (refine RxSl.keep ?_ (Kept.setLow _ (fun b hb=>by have:w.heap.size+1≤b:=hb;simp;omega)))
 exact HX1.out):p:=h
theorem cI {p:Prop} (h:p:=by
 simp only [kw] at hfl;rw [Co gD,Co gD,Co gD,Co gD,Co gD,Cl gD] at hfl;simp only [Cs,Cj] at hfl;exact hfl.2):p:=h
theorem cJ {p:Prop} (h:p:=by
 go_ret
 exact⟨jU HR2.out.symm,((((below_drewN ((Below.refl w.heap.size w).alloc (Cp _) _) _).setCell gF _).setCell gF _).setCell gF _).trans (hb1.mono jF)⟩):p:=h
theorem cK {p:Prop} (h:p:=by
 rw [show k+1-1=k from rfl,HK.out] at hg;injection hg with hg;subst hg;first|rfl|(simp;done)|(simp [HK0.out];done)):p:=h
theorem cL {p:Prop} (h:p:=by
 refine⟨?_,?_⟩
 ·rw [CD gH];simpa [show (k+1)*2-2=k*2 by omega] using h1
 ·rw [CD gH];simpa [show (k+1)*2+1-2=k*2+1 by omega] using h2):p:=h
theorem cM {p:Prop} (h:p:=by
 go_enter Tryz.func148,Tryz.ntmps148
 go_wp2_with (go_at_call 44;refine(nx _ _ gu).mono ?_;rintro e w1 ⟨rfl,rfl⟩)
 go_ret
 exact⟨jU HE.out.symm,(Below.refl _ _).alloc (Cp _) _⟩):p:=h
theorem cN {p:Prop} (h:p:=by
 go_enter Tryz.func108,Tryz.ntmps108
 go_upto_region 8 with fail
 go_region
 go_wp2_with (go_at_call 134;refine(HC.out _ hd).mono ?_;rintro e w9 ⟨x1,x2,x3,rfl,h9⟩)
 go_ret3
 exact⟨_,_,_,rfl,h9⟩):p:=h
theorem cO {p:Prop} (h:p:=by
 rintro e w1 ⟨rfl,hrd1,hq1⟩;have hg1:=jM hg0 hq1;have HRD1:=ab hrd1;have hz1:=hq1.size;clear hrd1 hq1;go_wp2
 go_ret3
 exact⟨hg1,by rw [←HR.out];exact⟨rfl,_,HRD1.out⟩⟩):p:=h
theorem cP {p:Prop} (h:p:=by
 rcases Nat.lt_or_ge i l.length with h1|h1
 ·exact h1
 ·rw [List.drop_of_length_le h1] at h;cases h):p:=h
theorem cQ {p:Prop} (h:p:=by
 go_wp2_with (go_at_call 103;refine(nN _ HB.out).mono ?_;rintro e w1 ⟨rfl,hb1,_⟩)
 go_ret
 exact⟨jU HE2.out.symm,bel2 ((hbb.setCell gF _).setCell gF _) hb1⟩):p:=h
theorem cR {p:Prop} (h:p:=by
 have:=heap_alloc_new (w.alloc (.cells (rxc kd ch ng ra rs.length rc lo hi lz ka ks.length kc).toArray 25)) (.cells #[.int .i64 0,.int .i64 0,.slice none 0 0] 51)
 rw [hW1];simpa using this):p:=h
theorem cS {p:Prop} (h:p:=by
 intro v1 w1 ho1 hg1 hb1 _;obtain⟨a1,c1,rfl⟩:=j7 ho1;go_wp2
 go_ret
 refine⟨a1,c1,by simp,by simpa using mQ ho1,((Below.refl _ _).alloc (Cp _) _).trans hb1⟩):p:=h
theorem cT {p:Prop} (h:p:=by
 have HE3:Hid (R=false):=ab (by rw [HE.out,hok];rfl);clear hl';go_wp2
 go_ret2
 exact⟨⟨_,by rw [HOR.out,HE3.out];rfl,fun h=>by rw [HOR.out,HE3.out] at h;cases h⟩,hbw2⟩):p:=h
theorem cU {p:Prop} (h:p:=by
 first|rintro e w1 rfl hb1|rintro e w1 ⟨rfl,hb1⟩
 go_wp2
 go_ret
 exact⟨rfl,bel2 hb0 hb1⟩):p:=h
theorem cV {p:Prop} (h:p:=by
 go_enter Tryz.func34,Tryz.ntmps34
 go_wp2_with (go_at_call 65;refine(zD _ _ _ hs).mono ?_;rintro e w1 ⟨rfl,hb1⟩)
 go_ret2
 exact⟨rfl,hb0.trans (hb1.mono hb0.size)⟩):p:=h
theorem cW {p:Prop} (h:p:=by
 rw [Cv hj.box];unfold Rn.cells;simp only [List.getElem?_toArray];rw [CD (by rw [hB.j.tp];omega),hB.j.tp,Nat.add_sub_cancel_left];exact hu):p:=h
theorem cX {p:Prop} (h:p:=by
 iterate 9 (refine RxV.keep (Kept.setLow _ (fun b hb=>by have:w.heap.size≤b∧b≠w.heap.size∧b≠w1.heap.size:=hb;first|omega|(simp;done)|(simp;omega))) ?_)
 exact HUS.out):p:=h
theorem cY {p:Prop} (h:p:=by
 obtain⟨va,vc,rfl⟩:=j7 hown;have HOWN:=ab hown;clear hd HF hown;go_wp2
 go_ret
 exact⟨va,vc,by rw [HE.out];rfl,by rw [←HE.out];exact mQ HOWN.out,hb⟩):p:=h
theorem cZ {p:Prop} (h:p:=by
 rcases hmv with h|h
 ·exact hb.1.2 (h▸e)
 ·have:=h b e;omega):p:=h
theorem da {p:Prop} (h:p:=by
 go_enter Tryz.func106,Tryz.ntmps106
 go_wp2
 go_ret
 exact⟨jU HS.out.symm,HQ.out⟩):p:=h
theorem db {p:Prop} (h:p:=by
 go_wp2_with (go_at_call 103;refine(nN _ HB.out).mono ?_;rintro e w1 ⟨rfl,hb1,_⟩)
 go_ret
 exact⟨jU HE2.out.symm,bel2 (hbb.setCell gF _) hb1⟩):p:=h
theorem dd {p:Prop} (h:p:=by
 rw [show ((UInt8.ofNat z.toNat).toNat:Int)=z by rw [pN h1];omega] at h;exact h):p:=h
theorem de {p:Prop} (h:p:=by
 subst h;have h256:=mE c;go_enter Tryz.func82,Tryz.ntmps82
 go_wp2
 all_goals
  go_ret
  refine⟨jU ?_,rfl⟩;rw [Bool.eq_iff_iff];simp [j0]<;>omega):p:=h
theorem df {p:Prop} (h:p:=by
 have h2:rs.length≤k:=gU;have HE:Hid (R=true):=ab gY;clear hd HF;go_wp2
 go_ret
 exact⟨jU HE.out.symm,hb⟩):p:=h
theorem dg {p:Prop} (h:p:=by
 rw [Cv h];rfl):p:=h
theorem dh {p:Prop} (h:p:=by
 rw [srt_app];refine⟨h1,List.pairwise_cons.2 ⟨k2,h2⟩,fun y hy z hz=>?_⟩;rcases Cz.1 hz with rfl|hz
 ·exact k1 y hy
 ·exact h3 y hy z hz):p:=h
theorem di {p:Prop} (h:p:=by
 have:=h.cells (g:=g) rfl j u hu
 have hadd:(⟨g,0,none⟩:Addr).add j=⟨g,0+j,none⟩:=by unfold Addr.add;split<;>simp_all
 rw [hadd] at this;exact this):p:=h
theorem dj {p:Prop} (h:p:=by
 have:=HF.out
 have hje:j=i:=gu;subst hje;cases k with
 | zero=>exact this
 | succ k=>simp only [bs] at this;rw [Co gu] at this;exact this):p:=h
theorem dk {p:Prop} (h:p:=by
 clear HG;go_wp2
 refine CJ (v:=.tuple #[]) (results_none rfl _ _ _) rfl ?_;exact⟨rfl,by rw [←HE.out];exact hrol,jM hg hgl⟩):p:=h
theorem dm {p:Prop} (h:p:=by
 clear HG2;go_wp2
 go_roundw
 case rel=>exact⟨j+1,by omega,by go_num,hbk,ab jK⟩
 case measure=>simp [intOf];omega):p:=h
theorem dn {p:Prop} (h:p:=by
 obtain⟨css,h1,_⟩:=h;rcases h1.2 with⟨rfl,h0⟩|⟨b,cap,cur,rfl,_,_,hn,_⟩
 ·exact⟨none,0,by rw [h0],by omega⟩
 ·exact⟨_,_,rfl,hn⟩):p:=h
theorem dq {p:Prop} (h:p:=by
 rintro x w' ⟨rfl,hr,hx⟩;go_wp2
 go_ret
 exact⟨rfl,hr,HB1.out.trans hx⟩):p:=h
theorem dr {p:Prop} (h:p:=by
 have e2:(pre++[v]).length=pre.length+1:=gF;rw [e2] at h2;have e3:pre++[v]++(vs++post)=pre++(v::vs++post):=gF;rw [e3] at h2;exact h2):p:=h
theorem dt {p:Prop} (h:p:=by
 go_wp2
 go_ret
 rw [←HQ4.out];exact⟨rfl,HR4.out,HX5.out.trans HX4.out⟩):p:=h
theorem du {p:Prop} (h:p:=by
 have HRE:Hid (R=([],0,10)):=ab (by rw [←HR.out];exact Cl hmay);clear hmay;go_wp2
 go_ret3
 exact⟨by rw [HRE.out];rfl,HB1.out⟩):p:=h
theorem dv {p:Prop} (h:p:=by
 intro h;rw [List.flatten_cons,Cy,ih (fun x hx=>h x (CC _ hx)),h c (CB ..)];simp;omega):p:=h
theorem dx {p:Prop} (h:p:=by
 rw [←HR.out];refine⟨rfl,?_⟩;iterate 8 (refine RdE.setHi ?_ gz _)
 exact⟨_,HRD2.out⟩):p:=h
theorem dy {p:Prop} (h:p:=by
 go_wp2
 all_goals
  go_ret
  refine⟨?_,rfl⟩;simp;rw [HR.out];first|(rw [Cl gu];omega)|(rw [Co gu];omega)):p:=h
theorem dz {p:Prop} (h:p:=by
 rw [lH] at h2;rw [mL _ _ gu,mL _ _ gu];exact vI _ (sU s) h1 gu):p:=h
theorem dA {p:Prop} (h:p:=by
 go_wp2_with (go_at_call 129;refine HC.out.mono ?_)
 rintro x w' ⟨rfl,hr,hx⟩;go_wp2
 go_ret
 exact⟨rfl,hr,HB.out.trans hx⟩):p:=h
theorem dB {p:Prop} (h:p:=by
 exact⟨.inl rfl,Nat.zero_le _,fun _=>⟨hyw,hsmy,hpty,by simp only [nx0];omega⟩,(fun h=>by cases h),(fun h=>by cases h)⟩):p:=h
theorem dC {p:Prop} (h:p:=by
 clear ho4 hg4 hmv;go_wp2
 go_roundw
 case rel=>exact⟨i+1,by omega,by go_num,hb4',ho5,hs4⟩
 case measure=>simp [intOf];omega):p:=h
theorem dD {p:Prop} (h:p:=by
 go_wp2
 all_goals
  go_ret
  refine⟨?_,rfl⟩;simp;rw [HR.out];first|(rw [Cl gu];omega)|(rw [Co gu])):p:=h
theorem dE {p:Prop} (h:p:=by
 have HE3:Hid (R=false):=ab (by rw [←HG2.out];simp [p01,Rx.kind]);go_wp2
 go_ret
 exact⟨jU HE3.out.symm,hbbk⟩):p:=h
theorem dF {p:Prop} (h:p:=by
 have e3:=pm e1;have e4:=pm e2;simp only [execOp,ho];go_simp):p:=h
theorem dG {p:Prop} (h:p:=by
 go_enter Tryz.func35,Tryz.ntmps35
 go_wp2
 go_region
 all_goals (go_wp2;go_ret;exact⟨rfl,Below.drew (Below.refl B w)⟩)):p:=h
theorem dH {p:Prop} (h:p:=by
 exact⟨0,0,[],by omega,rfl,rfl,rfl,Below.refl _ _,Nat.zero_le _,ab gF,ab fun _ _=>Nat.zero_le _,HG⟩):p:=h
theorem dI {p:Prop} (h:p:=by
 go_wp2_with (fail)
 go_ret2
 exact⟨rfl,hb0⟩):p:=h
theorem dJ {p:Prop} (h:p:=by
 go_wp2_with (go_at_call 108;refine HCC.out.mono ?_;rintro e w9 ⟨x1,x2,x3,rfl,h9⟩)
 go_ret3
 exact⟨_,_,_,rfl,h9⟩):p:=h
theorem dK {p:Prop} (h:p:=by
 exact oh gD):p:=h
theorem dL {p:Prop} (h:p:=by
 exact((hb.alloc hB _).trans (hb1.mono gH)).trans (hfr2.below gu (by simp;have:=hbl.le;omega))):p:=h
theorem dM {p:Prop} (h:p:=by
 refine(wz l i w h0 gu gu).mono ?_
 rintro e w1 ⟨hw,hp⟩;rw [hN] at hp;exact⟨hw,hp⟩):p:=h
theorem dN {p:Prop} (h:p:=by
 split at h
 ·injection h with h;injection h with _ h;subst h;exact⟨Cp _,fun e=>by omega⟩
 ·cases h):p:=h
theorem dO {p:Prop} (h:p:=by
 go_wp2
 go_roundw
 case rel=>exact⟨j+1,by omega,by go_num,HOW.out,HBN.out⟩
 case measure=>simp [intOf]<;>omega):p:=h
theorem dP {p:Prop} (h:p:=by
 injection h with h;injection h with h3 h;injection h with h4 h5
 subst h5;exact nM (C3 _ _)):p:=h
theorem dQ {p:Prop} (h:p:=by
 obtain⟨rfl,rfl⟩:=hrel;go_wp2
 go_end0
 exact⟨rfl,rfl⟩):p:=h
theorem dR {p:Prop} (h:p:=by
 rename_i y hy
 rw [hy] at f1 f2 f3;simp only [Rx.partsL,Rx.groupsL] at f2 f3;exact⟨f1.1,by omega,by omega⟩):p:=h
theorem dS {p:Prop} (h:p:=by
 unfold mM;rw [Co gu,Co gu,Co gu,Co gu,Co gu]):p:=h
theorem dU {p:Prop} (h:p:=by
 first|rintro e w2 rfl hb2|rintro e w2 ⟨rfl,hb2⟩
 go_wp2
 go_ret
 exact⟨by simp,bel2 (bel2 hb0 hb1) hb2⟩):p:=h
theorem dV {p:Prop} (h:p:=by
 go_wp2
 all_goals
  go_ret
  refine⟨jU ?_,HBW.out _⟩;rw [←HR.out,Bool.eq_iff_iff];simp [lT, *]):p:=h
theorem dW {p:Prop} (h:p:=by
 rw [←hPQ];have h1:=wE HF.out hPP;have h2:fs.length*mf≤1000*10000:=Nat.mul_le_mul hfs hmf;omega):p:=h
theorem dX {p:Prop} (h:p:=by
 rw [s5] at hn;split at hn
 ·rename_i q;injection hn with hn;exact⟨b,rfl,q,hn.symm⟩
 ·cases hn):p:=h
theorem dY {p:Prop} (h:p:=by
 simp only [anyK,List.any_cons,List.all_cons,Bool.not_or] at *;rw [ih];congr 1;rw [Bool.eq_iff_iff];simp):p:=h
theorem dZ {p:Prop} (h:p:=by
 refine⟨by omega,fun q hq=>?_⟩;rcases Cz.1 hq with rfl|hq
 ·omega
 ·have:=h2 q hq;omega):p:=h
theorem d9 {p:Prop} (h:p:=by
 simp only [kA,Cy,CK,List.length_replicate,CS];omega):p:=h
theorem eb {p:Prop} (h:p:=by
 obtain⟨t,rfl,rfl⟩:=hq;go_wp2
 go_ret3
 exact⟨hg2,by rw [←HR.out];exact⟨rfl,_,HRD2.out⟩⟩):p:=h
theorem ec {p:Prop} (h:p:=by
 unfold mayB okB at h;simp only [Cs,Cj] at h;exact⟨h.1.1,by omega⟩):p:=h
theorem ee {p:Prop} (h:p:=by
 go_wp2
 all_goals
  go_ret
  refine⟨jU ?_,rfl⟩;rw [HR.out,Bool.eq_iff_iff];simp;try omega):p:=h
theorem ef {p:Prop} (h:p:=by
 simp only [asAddr,Sem.run_pure,Result.andThen];rw [run_loadVar_row w b t ty cs f _ h hu rfl hi]):p:=h
theorem eh {p:Prop} (h:p:=by
 split at h
 ·injection h with h;injection h with _ h;subst h;exact C4 _
 ·cases h):p:=h
theorem ei {p:Prop} (h:p:=by
 exact⟨[],r0,World.ownsRow_nil _ _ _ _,HRD2.out,kD _ _,by simp,by omega,by simp,HR0⟩):p:=h
theorem el {p:Prop} (h:p:=by
 refine(zF l i n w h1 hs).mono ?_
 rintro e w1 ⟨hb,hp⟩;rw [hB] at hp;exact⟨hb,hp⟩):p:=h
theorem em {p:Prop} (h:p:=by
 go_wp2
 go_roundw
 case rel=>exact⟨rfl,.inr (.inl ⟨rfl,rfl⟩)⟩
 case measure=>simp [intOf]):p:=h
theorem ep {p:Prop} (h:p:=by
 have h:=CR List.length HE.out;simp only [Cy,Cr] at h;omega):p:=h
theorem et {p:Prop} (h:p:=by
 rw [Cv this];rfl):p:=h
theorem eu {p:Prop} (h:p:=by
 rintro x w' ⟨rfl,hr,hx⟩;go_wp2
 go_ret
 exact⟨rfl,hr,(HB1.out.trans HX2.out).trans hx⟩):p:=h
theorem ew {p:Prop} (h:p:=by
 go_ret
 exact⟨rfl,((Below.refl _ _).alloc (Cp _) _).trans (hb1.mono gF)⟩):p:=h
theorem ex {p:Prop} (h:p:=by
 exact⟨0,false,by omega,rfl,Below.refl _ _,ab ⟨fun _=>rfl,fun h=>by omega⟩,HR0⟩):p:=h
theorem ey {p:Prop} (h:p:=by
 iterate 9 (refine RdT.setHi ?_ gz _)
 exact HRD4.out):p:=h
theorem ez {p:Prop} (h:p:=by
 iterate 9 (refine jW ?_ gz _)
 exact hgw4):p:=h
theorem eA {p:Prop} (h:p:=by
 simp only [partsL];rcases Cz.1 h with rfl|h
 ·omega
 ·have:=parts_mem h;omega):p:=h
theorem eC {p:Prop} (h:p:=by
 go_wp2
 go_ret
 exact⟨jU iL,bel2 hb2 hb4⟩):p:=h
theorem eE {p:Prop} (h:p:=by
 rw [s5] at hn;cases hb:mY b with
 | true=>rw [hb] at hn;cases hn
 | false=>rfl):p:=h
theorem eF {p:Prop} (h:p:=by
 rw [hq1] at hm4;exact⟨0,0,none,0,0,false,hm4,.inl ⟨rfl,rfl,rfl,rfl,rfl,rfl,rfl⟩⟩):p:=h
theorem eG {p:Prop} (h:p:=by
 have hk0:k=0:=gu;subst hk0;have:=Hm.out
 rw [Co h0k];unfold tI;simp;omega):p:=h
theorem eH {p:Prop} (h:p:=by
 go_ret
 exact HEND.out _ (by have:=HFZ.out;omega)):p:=h
theorem eI {p:Prop} (h:p:=by
 exact absurd (HMX.out.symm.trans h1) gD):p:=h
theorem eJ {p:Prop} (h:p:=by
 exact⟨0,by omega,rfl,Below.refl _ _,by rw [List.take_zero];exact OwnX.nil _ _⟩):p:=h
theorem eK {p:Prop} (h:p:=by
 go_ret2
 exact⟨rfl,hb0.setCell (p:=⟨w.heap.size,0,none⟩) (Cp _) _⟩):p:=h
theorem eL {p:Prop} (h:p:=by
 obtain⟨x,r3⟩:=y;rw [hat] at hq;obtain⟨hq2,cc,rfl,hxv,hrd2⟩:=hq;have HR2:Hid (me x r3=R):=ab jk;have HR:=HR2;have hg2:=jM hg1 hq2;have hby2:=jQ HBY1.out hq2 gu;have hz2:=hq2.size;obtain⟨k,c,ng,rs,lo,hi,lz,ks⟩:=x;have hxv0:=hxv;obtain⟨ra,rc,ka,kc,rfl,hrs,hks⟩:=hxv.open_;have hb6:Below w2.heap.size w2 (w2.alloc (.cells #[.int .i64 k,.string ⟨(c).toArray⟩,.bool ng,.slice ra rs.length rc,.int .i64 lo,.int .i64 hi,.bool lz,.slice ka ks.length kc] 25)):=(Below.refl _ _).alloc (Cp _) _;have HRD6:=ab (hrd2.later hb6);have hg6:=jM hg2 (jN hb6 (some g));have HBY6:=ab ((hb6.block _ (jO hby2)).trans hby2);have hxv6:RxV _ (fun b=>w.heap.size+1≤b) _ _:=(hxv0.mono (S':=fun b=>w.heap.size+1≤b) fun b hb _=>by have:=hz1;omega).later hb6;have hz6:w.heap.size+1≤(w2.alloc (.cells #[.int .i64 k,.string ⟨(c).toArray⟩,.bool ng,.slice ra rs.length rc,.int .i64 lo,.int .i64 hi,.bool lz,.slice ka ks.length kc] 25)).heap.size:=by simp;have:=hz1;omega
 exact ai):p:=h
theorem eM {p:Prop} (h:p:=by
 obtain⟨x,r3⟩:=y;rw [hat] at hq;obtain⟨hq2,cc,rfl,hxv,hrd2⟩:=hq;have HR2:Hid (me x r3=R):=ab jk;have HR:=HR2;have hg2:=jM hg2 hq2;have hby2:=jQ HBY2.out hq2 gu;have hz2:=hq2.size;obtain⟨k,c,ng,rs,lo,hi,lz,ks⟩:=x;have hxv0:=hxv;obtain⟨ra,rc,ka,kc,rfl,hrs,hks⟩:=hxv.open_;have hb6:Below w2.heap.size w2 (w2.alloc (.cells #[.int .i64 k,.string ⟨(c).toArray⟩,.bool ng,.slice ra rs.length rc,.int .i64 lo,.int .i64 hi,.bool lz,.slice ka ks.length kc] 25)):=(Below.refl _ _).alloc (Cp _) _;have HRD6:=ab (hrd2.later hb6);have hg6:=jM hg2 (jN hb6 (some g));have HBY6:=ab ((hb6.block _ (jO hby2)).trans hby2);have hxv6:RxV _ (fun b=>w.heap.size+1≤b) _ _:=(hxv0.mono (S':=fun b=>w.heap.size+1≤b) fun b hb _=>by have:=hz2;omega).later hb6;have hz6:w.heap.size+1≤(w2.alloc (.cells #[.int .i64 k,.string ⟨(c).toArray⟩,.bool ng,.slice ra rs.length rc,.int .i64 lo,.int .i64 hi,.bool lz,.slice ka ks.length kc] 25)).heap.size:=by simp;have:=hz2;omega
 exact ai):p:=h
theorem eN {p:Prop} (h:p:=by
 have HT:=ab ht;cases hit:pH r with
 | none =>
  exact aV
 | some y =>
  obtain⟨c,nm,r1⟩:=y;obtain⟨i1,i2,i3,i4,i5⟩:=oX hit hok;have HIT:=ab hit;have HI4:=ab i4;have HRL:=ab hrl;have HOWN:=ab hown;clear i4 hrl hown;by_cases hnm:nm=[]
  ·subst hnm
   cases ht2:kG [45] r1 with
   | none =>
    exact an
   | some r2 =>
    have er1:=lM ht2;subst er1;cases r2 with
    | nil =>
     exact aq
    | cons c3 r3 =>
     by_cases h93:c3=[93]
     ·exact aj
     ·have ht3:kG [93] (c3::r3)=none:=by rw [kG,Co h93]
      have g93:(c3==[93])=false:=CM.2 h93;have g93':(c3 != [93])=true:=by simp [bne,g93]
      cases hit2:pH (c3::r3) with
      | none =>
       exact ak
      | some y =>
       obtain⟨t,nm2,r4⟩:=y;obtain⟨j1,j2,j3,j4,j5⟩:=oX hit2 i5.tail;have HIT2:=ab hit2;clear j4;by_cases hnm2:nm2=[]
       ·exact ag
       ·exact am
  ·exact aM):p:=h
theorem eO {p:Prop} (h:p:=by
 refine TfV.mono (S:=fun b=>w.heap.size<b∧b<w3.heap.size) (fun b hb _=>by have h:w.heap.size<b∧b<w3.heap.size:=hb;omega) ?_;iterate 11 (refine TfV.keep (Kept.setLow _ (fun b hb=>by have h:w.heap.size<b∧b<w3.heap.size:=hb;simp;omega)) ?_)
 exact hT.keep (Kept.all ((Below.refl _ _).alloc (Cp _) _))):p:=h
theorem eP {p:Prop} (h:p:=by
 refine CJ (v:=.tuple #[.agg #[.int .i64 0,.int .i64 0,.int .i64 0,.string ⟨#[]⟩,.string ⟨#[]⟩],.int .i64 0,.bool false]) gW rfl ⟨?_,by rw [HE'.out];rfl⟩
 (repeat (first|with_reducible exact Below.refl _ _|with_reducible assumption|(refine Below.setCell ?_ gO _)|(refine Below.alloc ?_ gJ _)|(refine Below.drew ?_)))):p:=h
theorem eQ {p:Prop} (h:p:=by
 rw [List.getD_eq_getElem?_getD];cases hg:R.C.cs[j]? with
 | none=>simp
 | some c=>exact ok.ch c (CF hg)):p:=h
theorem eS {p:Prop} (h:p:=by
 go_wp2_with (go_at_call 23;refine HRD.out.mono ?_)
 rintro e w1 ⟨hb1,rfl⟩;have hb1w:Below w.heap.size w w1:=hb.trans (hb1.mono hB);have hB1:=hb1w.size;have hby1:=(hb1.block _ (jO HBY.out)).trans HBY.out;have z0:=fun o=>jT (j8 hby1 o) 0 rfl
 have z1:=fun o=>jT (j8 hby1 o) 1 rfl
 have z2:=fun o=>jT (j8 hby1 o) 2 rfl
 have z3:=fun o=>jT (j8 hby1 o) 3 rfl
 have z4:=fun o=>jT (j8 hby1 o) 4 rfl
 have z5:=fun o=>jT (j8 hby1 o) 5 rfl
 have z6:=fun o=>jT (j8 hby1 o) 6 rfl
 have z7:=fun o=>jT (j8 hby1 o) 7 rfl
 have z8:=fun o=>jT (j8 hby1 o) 8 rfl
 have z9:=fun o=>jT (j8 hby1 o) 9 rfl
 have z10:=fun o=>jT (j8 hby1 o) 10 rfl
 have zf:=fun o=>oO (j8 hby1 o)
 clear hby1 hby;unfold rxv0;go_wp2
 exact ax):p:=h
theorem eV {p:Prop} (h:p:=by
 refine⟨rfl,?_⟩;iterate 8 (refine RdE.setHi ?_ gz _)
 exact⟨_,HRD9.out⟩):p:=h
theorem eW {p:Prop} (h:p:=by
 have:=HL.out;have h5:=HPL.out;rw [HPV.out] at h5;rw [Cy];rw [Nat.succ_mul];omega):p:=h
theorem eX {p:Prop} (h:p:=by
 have HR2:Hid (R=false):=ab it;go_enter Tryz.func91,Tryz.ntmps91
 go_wp2_with (go_at_call 122;refine(ma _ HB.out).mono ?_;rintro e w1 ⟨rfl,hb1,hc1⟩;have hq7:=hc1 ⟨w.heap.size,7,none⟩ (.slice ka (ks.length+1) kc) gF)
 exact bd):p:=h
theorem eY {p:Prop} (h:p:=by
 generalize hx:l[k]=x at *
 have Hx:=ab hx;clear hx;go_wp2_with (fail)
 go_roundw
 case rel=>exact⟨k+1,by omega,by go_num,HR.out,hb,hlt⟩
 case measure=>simp [intOf];omega):p:=h
theorem eZ {p:Prop} (h:p:=by
 refine⟨i+1,ini++[lst++[c]],true,by omega,by go_num,uY ho _,(hbo.setCell hgB _).drew,by simp;omega,ab (fun x hx=>?_),ab ⟨fun h=>by omega,fun _ x hx=>?_⟩,ab gF,ab (by rw [Hr.out,←HE.out,oJ])⟩
 ·rcases CI.1 hx with hx|hx
  ·have:=HL2.out x hx;omega
  ·simp at hx;subst hx;simp;omega
 ·rw [show i+1-1=i from rfl,Cn h2,h3] at hx
  injection hx with hx;subst hx;exact HW.out):p:=h
theorem fb {p:Prop} (h:p:=by
 have:=HL.out;rw [Cy];have hp:=HPL.out;rw [HPV.out] at hp;rw [Nat.succ_mul];omega):p:=h
theorem fg {p:Prop} (h:p:=by
 have z0:=jT hby0 0 rfl;have z1:=jT hby0 1 rfl;have z2:=jT hby0 2 rfl;have z3:=jT hby0 3 rfl;have z4:=jT hby0 4 rfl;have z5:=jT hby0 5 rfl;have z6:=jT hby0 6 rfl;have z7:=jT hby0 7 rfl;have z8:=jT hby0 8 rfl;have z9:=jT hby0 9 rfl;have z10:=jT hby0 10 rfl;have zf:=oO hby0;clear hby0;go_enter Tryz.func9,Tryz.ntmps9
 go_wp2
 exact ax):p:=h
theorem fh {p:Prop} (h:p:=by
 go_enter Tryz.func91,Tryz.ntmps91
 go_wp2_with (go_at_call 122;refine(ma _ HB.out).mono ?_;rintro e w1 ⟨rfl,hb1,hc1⟩;have hq7:=hc1 ⟨w.heap.size,7,none⟩ (.slice ka (0) kc) gF)
 exact bd):p:=h
theorem fi {p:Prop} (h:p:=by
 go_enter Tryz.func91,Tryz.ntmps91
 go_wp2_with (go_at_call 122;refine(ma _ HB.out).mono ?_;rintro e w1 ⟨rfl,hb1,hc1⟩;have hq7:=hc1 ⟨w.heap.size,7,none⟩ (.slice ka (1) kc) gF)
 exact bd):p:=h
theorem fj {p:Prop} (h:p:=by
 rw [show i+1-1=i from rfl,Cn h2,h3] at hx;injection hx with hx;subst hx;first|exact HW.out|rfl):p:=h
theorem fo {p:Prop} (h:p:=by
 rw [Hr.out,CU,←HPV.out];exact HRR2.out):p:=h
theorem fp {p:Prop} (h:p:=by
 go_enter Tryz.func48,Tryz.ntmps48
 go_wp2_with (first|(go_at_call 79;refine(lI _ _ _ _ gu gu gF).mono ?_;rintro e w1 ⟨rfl,rfl⟩)|(go_at_call 78;refine(mW _ gu gu gu HN.out).mono ?_;rintro e w1 ⟨rfl,rfl⟩))
 exact aK):p:=h
theorem fq {p:Prop} (h:p:=by
 go_wp2
 go_roundw
 case rel=>exact⟨H+1,j,k,by go_num,rfl,by omega,by omega,by omega,by omega,hrq,hgq,HE2⟩
 case measure=>simp [intOf];omega):p:=h
theorem fw {p:Prop} (h:p:=by
 go_wp2
 go_roundw
 case rel=>exact⟨i,H,k,rfl,rfl,by omega,by omega,by omega,by omega,hrq,hgq,HE2⟩
 case measure=>simp [intOf];omega):p:=h
theorem fx {p:Prop} (h:p:=by
 iterate 8 (refine jW ?_ gz _)
 exact hg1):p:=h
theorem fy {p:Prop} (h:p:=by
 subst hkl;have hcv2:=hr.back (P:=Tryz.prog) (src:=46) (dst:=9) Tryz.underlying46 Tryz.underlying5 Tryz.underlying9 cap;simp only [List.take_length,List.drop_length,C2,CX] at hcv2;go_wp2
 go_ret
 exact⟨rfl,hb⟩):p:=h
theorem fz {p:Prop} (h:p:=by
 exact(hb.alloc hB _).trans (hfr2.below gH (by simp;have:=hbl.le;omega))):p:=h
theorem fA {p:Prop} (h:p:=by
 refine⟨rfl,?_⟩;iterate 8 (refine RdE.setHi ?_ gz _)
 exact⟨_,HRD1.out⟩):p:=h
theorem fB {p:Prop} (h:p:=by
 rw [Hr.out,CU,←HPV.out,←HR.out]):p:=h
theorem fC {p:Prop} (h:p:=by
 rw [show wq.heap.size=(wq).heap.size from by first|rfl|simp [World.setCell]];exact Sl.lit (n:=1) (sz:=2) (heap_alloc_new (wq) (.cells #[.string ⟨(c).toArray⟩,.string ⟨(c).toArray⟩] 72)) rfl):p:=h
theorem fD {p:Prop} (h:p:=by
 rw [HY.out];refine OwnX.app (ds:=[_]) (m:=1) HRV6.out (.cons (HCV6.out.mono fun b hb _=>?_) .nil) rfl ?_ hq7 hmv
 ·exact⟨by omega,fun e=>by have:=(hlta b e).2;omega⟩
 ·simpa using ho7):p:=h
theorem fE {p:Prop} (h:p:=by
 have HR2:Hid (Except.error q=R):=ab jk;have HR:=HR2;have hg2:=jM hg1 hq2;have hby2:=jQ HBY1.out hq2 gu;exact aw):p:=h
theorem fF {p:Prop} (h:p:=by
 have HR2:Hid (Except.error q=R):=ab jk;have HR:=HR2;have hg2:=jM hg2 hq2;have hby2:=jQ HBY2.out hq2 gu;exact aw):p:=h
theorem fG {p:Prop} (h:p:=by
 iterate 8 (refine RdT.setHi ?_ gz _)
 exact HRD1.out):p:=h
theorem fH {p:Prop} (h:p:=by
 have he:List.isEmpty (p)=true:=by simp [hp0]
 have HP0:=ab hp0;clear hp0;exact av):p:=h
theorem fI {p:Prop} (h:p:=by
 iterate 8 (refine Below.setCell ?_ gF _)
 exact hbw1):p:=h
theorem fJ {p:Prop} (h:p:=by
 simp only at hkind;subst hkind
 have HPV:Hid (lg ps ⟨0,(fn:Int),cse,thn,els⟩=thn):=ab iB;exact aI):p:=h
theorem fK {p:Prop} (h:p:=by
 obtain⟨i,j,k,rfl,rfl,hi,hij,hj,hk,hro,hg,HF⟩:=hrel;clear HT HRO;by_cases hlt:i<j
 ·exact ae
 ·have hij2:T=i:=by
   exact aZ
  exact bI):p:=h
theorem fL {p:Prop} (h:p:=by
 obtain⟨i,j,k,rfl,rfl,hi,hij,hj,hk,hro,hg,HF⟩:=hrel;clear HT HRO;by_cases hlt:i<j
 ·exact ae
 ·have hij2:T=i:=by
   exact aZ
  exact cG):p:=h
theorem fM {p:Prop} (h:p:=by
 go_wp2_with (go_at_call 79;refine(lI _ _ _ _ gu gu gF).mono ?_;rintro e w1 ⟨rfl,rfl⟩)
 exact aK):p:=h
theorem fN {p:Prop} (h:p:=by
 injection h with h;injection h with _ h;subst h;simp at *;omega):p:=h
theorem fO {p:Prop} (h:p:=by
 refine⟨rfl,?_⟩;iterate 8 (refine RdE.setHi ?_ gz _)
 exact⟨_,HRD6.out⟩):p:=h
theorem fP {p:Prop} (h:p:=by
 have HPV:Hid (lg ps ⟨0,(fn:Int),cse,thn,els⟩=thn):=ab gM;exact bg):p:=h
theorem fQ {p:Prop} (h:p:=by
 have HPV:Hid (lg ps ⟨3,(fn:Int),cse,thn,els⟩=els):=ab gM;exact aQ):p:=h
theorem fR {p:Prop} (h:p:=by
 have HPV:Hid (lg ps ⟨4,(fn:Int),cse,thn,els⟩=els):=ab gM;exact aQ):p:=h
theorem fS {p:Prop} (h:p:=by
 have HPV:Hid (lg ps ⟨5,(fn:Int),cse,thn,els⟩=els):=ab gM;exact aQ):p:=h
theorem fT {p:Prop} (h:p:=by
 rw [Cy,show jX (rows++[(c,c)])=jX rows++jX [(c,c)] from by simp [jX]];exact hown7):p:=h
theorem fU {p:Prop} (h:p:=by
 clear hd HF;have hbb:=hb0.trans (hb.mono hb0.size);go_wp2
 go_ret
 exact⟨lD (by have:=HE.out;omega),hbb⟩):p:=h
theorem fV {p:Prop} (h:p:=by
 refine⟨by simp;try omega,by simp;try omega,j+1,by omega,by omega,(ky HJ3.out).2.2,by simp⟩):p:=h
theorem fW {p:Prop} (h:p:=by
 go_wp2_with (go_at_call 25;refine(lv _ HIX.out).mono ?_;rintro e w4 ⟨rfl,rfl⟩)
 exact ax):p:=h
theorem fX {p:Prop} (h:p:=by
 refine jS gE gE ?_;repeat (go_big_quiet_step ((fail)))
 exact cl):p:=h
theorem fY {p:Prop} (h:p:=by
 go_wp2
 go_ret
 exact⟨jU HE.out.symm,(hb.alloc hB _).trans (xq.ext.mono gH)⟩):p:=h
theorem fZ {p:Prop} (h:p:=by
 go_ret3
 exact⟨_,_,_,rfl,h9⟩):p:=h
theorem f9 {p:Prop} (h:p:=by
 have he:List.isEmpty (p)=false:=by simpa using hp0
 have HP0:=ab hp0;clear hp0;exact aI):p:=h
theorem ga {p:Prop} (h:p:=by
 first|omega|(simp;done)|(simp;omega)):p:=h
theorem gd {p:Prop} (h:p:=by
 exact(hg1.block _ (jO HBY.out) (lB hown HBY.out gD).symm).trans HBY.out):p:=h
theorem gf {p:Prop} (h:p:=by
 iterate 8 (refine Below.setCell ?_ gz _)
 exact hbl7):p:=h
theorem gi {p:Prop} (h:p:=by
 clear HF2;go_wp2
 go_ret2
 exact⟨hg,by rw [←HF3.out];exact⟨⟨_,rfl⟩,_,HRD.out⟩⟩):p:=h
theorem gj {p:Prop} (h:p:=by
 iterate 8 (refine jW ?_ gz _)
 exact hg8):p:=h
theorem gl {p:Prop} (h:p:=by
 have hc9:0≤cv:=gu;have HE2:=ab ((Co hc0).symm.trans HF2.out);clear hc0;simp only [hc0',Bool.not_false];exact fq):p:=h
theorem gm {p:Prop} (h:p:=by
 rw [show i+1-1=i from rfl,Cn h2,h3] at hx;injection hx with hx;subst hx;exact HW.out):p:=h
theorem gp {p:Prop} (h:p:=by
 have HE2:=ab ((Cl hc0).symm.trans HF2.out);simp only [hc0',Bool.not_true];exact fw):p:=h
end Go.Proofs.YtjggmmaojklmpaaGreat
