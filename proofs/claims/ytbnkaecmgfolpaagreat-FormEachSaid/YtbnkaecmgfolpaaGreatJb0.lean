/- Closing steps that recur, each as a theorem whose argument is found by them. -/
import Derived.WalkLawsBesides
import Derived.WalkSpells
import Derived.BigQuiet
import Derived.Deep.DeepCutAuto
import Derived.Lib.Hide
import Derived.Deep.RegionLaw
import Derived.StillTailTactics
set_option maxRecDepth 100000
namespace Go.Proofs.YtbnkaecmgfolpaaGreat
open Go.RowKit
theorem ab {p:Prop} (h:p):RowKit.Hid p:=Lib.hid h
abbrev wQ:=@Bool.and_true
abbrev wR:=@beq_iff_eq
abbrev wS:=@decide_eq_true_eq
abbrev wT:=@UInt8.toNat_inj
abbrev wU:=@if_pos
abbrev wV:=@List.eq_nil_of_length_eq_zero
abbrev wW:=@List.getElem?_eq_getElem
abbrev wX:=@if_neg
abbrev wY:=@Nat.le_refl
abbrev wZ:=@List.getElem?_eq_some_iff
abbrev xb:=@Nat.le_trans
abbrev xd:=@Nat.lt_of_lt_of_le
abbrev xe:=@Lib.cell_of_heap
abbrev xf:=@List.map_cons
abbrev xg:=@List.length_cons
abbrev xi:=@Bool.and_eq_true
abbrev xj:=@List.flatMap_cons
abbrev xm:=@List.length_append
abbrev xo:=@List.mem_cons
abbrev xp:=@List.getElem?_append_left
abbrev xt:=@List.mem_cons_self
abbrev xw:=@List.mem_cons_of_mem
abbrev xx:=@List.getElem?_append_right
abbrev xy:=@Bool.true_and
abbrev xA:=@List.mem_of_getElem?
abbrev xB:=@Bool.or_eq_true
abbrev xC:=@List.not_mem_nil
abbrev xD:=@List.mem_append
abbrev xE:=@bodyPost_ret
abbrev xF:=@List.length_take
abbrev xG:=@World.size_alloc
abbrev xH:=@beq_eq_false_iff_ne
abbrev xI:=@List.foldl_cons
abbrev xJ:=@decide_eq_true
abbrev xK:=@decide_eq_false
abbrev xL:=@List.takeWhile_append_dropWhile
abbrev xM:=@congrArg
abbrev xN:=@List.length_drop
abbrev xO:=@List.nil_append
abbrev xP:=@Nat.add_assoc
abbrev xQ:=@List.cons_append
abbrev xR:=@List.length_nil
abbrev xS:=@List.length_map
abbrev xT:=@List.drop_zero
abbrev xU:=@List.append_assoc
abbrev xV:=@List.mem_singleton
abbrev xW:=@List.append_nil
abbrev xX:=@Bool.false_eq_true
abbrev xY:=@List.suffix_cons
abbrev xZ:=@List.suffix_refl
theorem eu {p:Prop} (h:p:=by omega):p:=h
theorem ew {p:Prop} (h:p:=by rw [hc1 _ _ (by first|(simp;done)|(simp;omega))];simp):p:=h
theorem ex {p:Prop} (h:p:=by first|omega|(simp;done)|(simp;omega)):p:=h
theorem ey {p:Prop} (h:p:=by first|(simp;done)|(simp;omega)):p:=h
theorem ez {p:Prop} (h:p:=by decide):p:=h
theorem eA {p:Prop} (h:p:=by kernel_rfl):p:=h
theorem eB {p:Prop} (h:p:=by simp):p:=h
theorem eC {p:Prop} (h:p:=by simp;omega):p:=h
theorem eD {p:Prop} (h:p:=by first|(simp;done)|(simp;omega)|omega):p:=h
theorem eE {p:Prop} (h:p:=by simp [World.setCell];omega):p:=h
theorem eF {p:Prop} (h:p:=by simp [results,Tryz.results112,go_sem,f0,f1,f2,f3,f4,f5,f6,f7]):p:=h
theorem eG {p:Prop} (h:p:=by simp [Value.oneCell']):p:=h
theorem eH {p:Prop} (h:p:=by simp [results,Tryz.results147,go_sem,f0,f1,f2,f3,f4,f5,f6,f7]):p:=h
theorem eI {p:Prop} (h:p:=by first|(simp;done)|omega):p:=h
theorem eJ {p:Prop} (h:p:=by simp [results,Tryz.results146,go_sem,f0,f1,f2,f3,f4,f5,f6,f7]):p:=h
theorem eK {p:Prop} (h:p:=by simp [results,Tryz.results78,go_sem,f0,f1,f2,f3,f4,f5,f6,f7]):p:=h
theorem eL {p:Prop} (h:p:=by rw [show b=w.heap.size from e];exact Nat.lt_irrefl _):p:=h
theorem eM {p:Prop} (h:p:=by simp [results,Tryz.results111,go_sem,f0,f1,f2,f3,f4,f5,f6,f7]):p:=h
theorem eN {p:Prop} (h:p:=by rw [show ((i:Int)+1).toNat=i+1 by omega,Hr.out];exact hU):p:=h
theorem eO {p:Prop} (h:p:=by simp [results,Tryz.results100,go_sem,z0,z1,z2,z3,z4]):p:=h
theorem eP {p:Prop} (h:p:=by simp [results,Tryz.results20,go_sem,f0,f1,f2,f3,f4,f5,f6,f7]):p:=h
theorem eQ {p:Prop} (h:p:=by simp [results,Tryz.results14,go_sem,z0,z1,z2,z3,z4,z5,z6,z7,z8,z9,z10]):p:=h
theorem eR {p:Prop} (h:p:=by rw [←HR.out];simp only [nl,ht]):p:=h
theorem eS {p:Prop} (h:p:=by simp only [jO];rw [HPO.out];simp [hp0]):p:=h
theorem eT {p:Prop} (h:p:=by simp [results,Tryz.results145,go_sem,f0,f1,f2,f3,f4,f5,f6,f7]):p:=h
theorem eU {p:Prop} (h:p:=by rw [xH];omega):p:=h
theorem eV {p:Prop} (h:p:=by simpa using h):p:=h
theorem eW {p:Prop} (h:p:=by rw [←hd];exact HF.out):p:=h
theorem eX {p:Prop} (h:p:=by rw [show k=w.heap.size from e];exact Nat.lt_irrefl _):p:=h
theorem eY {p:Prop} (h:p:=by first|exact hbl.alloc _|exact(hbl.alloc _).below hb1):p:=h
theorem eZ {p:Prop} (h:p:=by rw [ho];decide):p:=h
theorem fb {p:Prop} (h:p:=by first|omega|(simp;done)):p:=h
theorem fg {p:Prop} (h:p:=by first|rfl|simp):p:=h
theorem fh {p:Prop} (h:p:=by rw [HR.out];rfl):p:=h
theorem fi {p:Prop} (h:p:=by simp [results,Tryz.results18,go_sem,f0,f1,f2,f3,f4,f5,f6,f7]):p:=h
theorem fj {p:Prop} (h:p:=by simp [results,Tryz.results77,go_sem,f0,f1,f2,f3,f4,f5,f6,f7]):p:=h
theorem fo {p:Prop} (h:p:=by rw [xm];omega):p:=h
theorem fp {p:Prop} (h:p:=by rw [HS.out,hbv];rfl):p:=h
theorem fq {p:Prop} (h:p:=by simp only [jO];rw [HPO.out];rfl):p:=h
theorem fr {p:Prop} (h:p:=by simpa using hd):p:=h
theorem fw {p:Prop} (h:p:=by first|omega|(simp;omega)):p:=h
theorem fx {p:Prop} (h:p:=by rw [wR];omega):p:=h
theorem fy {p:Prop} (h:p:=by simp [hd]):p:=h
theorem fz {p:Prop} (h:p:=by rw [←hR];simp only [escM,hn,hbig,hpm]):p:=h
theorem fA {p:Prop} (h:p:=by rw [←HR.out,←HF2.out]):p:=h
theorem fB {p:Prop} (h:p:=by rw [vN];rfl):p:=h
theorem fC {p:Prop} (h:p:=by rw [←HS.out,hd,show s.drop (j+2)=r2 from Hkr.out];simp [rxSp,c92,d47]):p:=h
theorem fD {p:Prop} (h:p:=by rw [←HF.out,hd];rfl):p:=h
theorem fE {p:Prop} (h:p:=by simp [results,Tryz.results145,go_sem,f0,f1,f2,f3,f4,f5,f6,f7,hlt9]):p:=h
theorem fF {p:Prop} (h:p:=by have:=HB1.out.size;have:=HB2.out.size;omega):p:=h
theorem fG {p:Prop} (h:p:=by simp only [maxLen,vl];omega):p:=h
theorem fH {p:Prop} (h:p:=by rw [←HR.out];unfold rJ;simp only [hpr]):p:=h
theorem fI {p:Prop} (h:p:=by rw [hc2 _ _ (by simp [World.setCell];omega)];simp [go_sem,z0]):p:=h
theorem fJ {p:Prop} (h:p:=by rw [hc2 _ _ (by simp [World.setCell];omega)];simp [go_sem,z1]):p:=h
theorem fK {p:Prop} (h:p:=by rw [hc2 _ _ (by simp [World.setCell];omega)];simp [go_sem,z2]):p:=h
theorem fL {p:Prop} (h:p:=by rw [hc2 _ _ (by simp [World.setCell];omega)];simp [go_sem,z3]):p:=h
theorem fM {p:Prop} (h:p:=by rw [hc2 _ _ (by simp [World.setCell];omega)];simp [go_sem,z4]):p:=h
theorem fN {p:Prop} (h:p:=by rw [hc2 _ _ (by simp [World.setCell];omega)];simp [go_sem,y0]):p:=h
theorem fO {p:Prop} (h:p:=by rw [hc2 _ _ (by simp [World.setCell];omega)];simp [go_sem,y1]):p:=h
theorem fP {p:Prop} (h:p:=by rw [hc2 _ _ (by simp [World.setCell];omega)];simp [go_sem,y2]):p:=h
theorem fQ {p:Prop} (h:p:=by rw [hc2 _ _ (by simp [World.setCell];omega)];simp [go_sem,y3]):p:=h
theorem fR {p:Prop} (h:p:=by rw [hc2 _ _ (by simp [World.setCell];omega)];simp [go_sem,y4]):p:=h
theorem fS {p:Prop} (h:p:=by simp [results,Tryz.results42,go_sem,f0,f1,f2,f3,f4,f5,f6,f7]):p:=h
theorem fT {p:Prop} (h:p:=by rw [←HF.out];simp only [iL,ht,hit,ht2,ht3,hit2,hlt];simp):p:=h
theorem fU {p:Prop} (h:p:=by rw [lJ];omega):p:=h
theorem fV {p:Prop} (h:p:=by rw [show ((j:Int)+1).toNat=j+1 by omega,HJ.out];exact hV):p:=h
theorem fW {p:Prop} (h:p:=by rw [show ((i:Int)+1).toNat=i+1 by omega,Hr.out];exact hM):p:=h
theorem fX {p:Prop} (h:p:=by rw [show ((j:Int)+1).toNat=j+1 by omega,Hr.out];exact hP):p:=h
theorem fY {p:Prop} (h:p:=by rw [←HR.out];simp only [hat]):p:=h
theorem fZ {p:Prop} (h:p:=by simp [results,Tryz.results68,go_sem]):p:=h
theorem ga {p:Prop} (h:p:=by simp only [jO];rw [HPO.out];simp):p:=h
theorem gd {p:Prop} (h:p:=by simp [results,Tryz.results100,go_sem,x0,x1,x2,x3,x4]):p:=h
theorem gf {p:Prop} (h:p:=by simp [results,Tryz.results68,go_sem,z0,z1,z2,z3,z4]):p:=h
theorem gi {p:Prop} (h:p:=by simp only [vl];omega):p:=h
theorem gj {p:Prop} (h:p:=by have:=hb1.size;simp at this;omega):p:=h
theorem gl {p:Prop} (h:p:=by have:=HTF.out;simp;omega):p:=h
theorem gm {p:Prop} (h:p:=by first|(simp;omega)|omega):p:=h
theorem gp {p:Prop} (h:p:=by rw [←HR.out];simp only [hpr,ht]):p:=h
theorem gr {p:Prop} (h:p:=by rw [HM.out,hd,hbt];simp [hkl]):p:=h
theorem gu {p:Prop} (h:p:=by rw [HE.out,hU]):p:=h
theorem gv {p:Prop} (h:p:=by have:=Rx.parts_mem hy;omega):p:=h
theorem gz {p:Prop} (h:p:=by rw [xG];omega):p:=h
theorem gC {p:Prop} (h:p:=by simp [World.setCell]):p:=h
theorem gD {p:Prop} (h:p:=by rw [HE5.out,hfl]):p:=h
theorem gE {p:Prop} (h:p:=by simpa [Rx.groups] using hg):p:=h
theorem gF {p:Prop} (h:p:=by rw [←HR.out,hres]):p:=h
theorem ae {p:Prop} (h:p:=by
 obtain⟨k,rfl⟩:∃k',k=k'+1:=⟨k-1,by omega⟩;obtain⟨H,hH⟩:∃H,(i+j) / 2=H:=⟨_,rfl⟩;have hH2:((i:Int)+j) / 2=(H:Int):=eu;have hHb:i≤H∧H<j:=eu;obtain⟨K,hK⟩:∃K,M+m-1-H=K:=⟨_,rfl⟩;have hK2:(M:Int)+m-1-H=(K:Int):=eu;have hKN:K<N:=eu;obtain⟨x,hx⟩:∃x,rs[K]?=some x:=⟨_,wW eu⟩;obtain⟨y,hy⟩:∃y,rs[H]?=some y:=⟨_,wW eu⟩;obtain⟨c1,c2⟩:=hro.at_ hx;obtain⟨c3,c4⟩:=hro.at_ hy;obtain⟨x1,x2⟩:=x;obtain⟨y1,y2⟩:=y;obtain⟨cv,hcv⟩:∃cv,cmpR (x1,x2) (y1,y2)=cv:=⟨_,rfl⟩;have HCV:Hid (∀w:World,Calls Tryz.prog 47 #[.agg #[.string ⟨(x1).toArray⟩,.string ⟨(x2).toArray⟩],.agg #[.string ⟨(y1).toArray⟩,.string ⟨(y2).toArray⟩]] w fun e w'=>e=.returned (.int .i64 cv)∧Below w.heap.size w w'):=ab (fun w=>by
  rw [←hcv];exact nA (x1,x2) (y1,y2) w)
 have d1:∀x:ExtOf wr,x.val.cell? ⟨g,(K)*2,none⟩=some (.string ⟨(x1).toArray⟩):=ExtOf.cell c1;have d2:∀x:ExtOf wr,x.val.cell? ⟨g,(K)*2+1,none⟩=some (.string ⟨(x2).toArray⟩):=ExtOf.cell c2;have d3:∀x:ExtOf wr,x.val.cell? ⟨g,(H)*2,none⟩=some (.string ⟨(y1).toArray⟩):=ExtOf.cell c3;have d4:∀x:ExtOf wr,x.val.cell? ⟨g,(H)*2+1,none⟩=some (.string ⟨(y2).toArray⟩):=ExtOf.cell c4;have HX:=ab hx;have HY:=ab hy;have HROJ:=ab hro;clear hx hy c1 c2 c3 c4;have HF2:Hid ((if cv<0 then bs (fun c=>!ltAt rs (M+m-1-c) c) k i H else bs (fun c=>!ltAt rs (M+m-1-c) c) k (H+1) j)=T):=ab (by
  have hp:(!ltAt rs (M+m-1-H) H)=!decide (cv<0):=by rw [hK,qi HX.out HY.out,hcv]
  rw [←HF.out];simp only [bs,hlt,if_true,hH,hp];by_cases hc:cv<0<;>simp [hc])
 clear hcv hH hK HF hro;go_wp2
 refine gN eA eA ?_;repeat (go_big_quiet_step ((go_at_call 47;exact iy (HCV.out _))))
 refine wpQuiet_nil ?_;rintro _ ⟨xq,rfl⟩;have hrq:RO xq.val B g cap rs:=gP HROJ.out xq.ext;have hgq:=jY hg xq.ext;clear d1 d2 d3 d4;by_cases hc0:cv<0
 ·have hc0':decide (cv<0)=true:=xJ hc0
  exact et
 ·have hc0':decide (cv<0)=false:=xK hc0
  exact ep):p:=h
theorem ag {p:Prop} (h:p:=by
 have HBE:=ab hbE;clear hbE HFL;go_cut [11] from 11 to 11 (fun a wx=>a=.string ⟨(ab26).toArray⟩∧wx=w1)
 case first =>
  go_wp2_with fail
  go_meet
  exact⟨rfl,rfl⟩
 case rest =>
  obtain⟨rfl,hwc⟩:=hcut;replace hwc:=hwc.symm;subst hwc;go_wp2
  go_loopw [12,13] (fun v12 q wr=>FeRel xs.length w1 v12 q wr) (fun _ q _=>xs.length-(intOf q).toNat)
  case atStart=>exact⟨0,[],by omega,rfl,rfl,Below.refl _ _,World.ownsRow_nil _ _ _ _,ab eB⟩
  case round =>
   obtain⟨i,rs,hi,hrl,rfl,hb,hown,HRL⟩:=hrel;obtain⟨va,vc,rfl⟩:=gY hown;have HB:=ab hb;have HOWN:=ab hown;have hzb:=hb.size;have HRE:=ab hrl;have hrb:rs.length≤6:=eu;clear hb hown hrl;by_cases hin:i<xs.length
   ·obtain⟨p,hp⟩:∃p,xs[i]?=some p:=⟨_,wW hin⟩
    obtain⟨b,o,rfl,hbl,y0,y1⟩:=((HX.out.keep HBE.out).keep (HB.out.mono HBE.out.size)).pair hp rfl;obtain⟨q1,q2⟩:=p;have l1:=vA q1 (n:=26) eu;have l2:=vA q2 (n:=26) eu;obtain⟨a,ha⟩:∃a:Nat,low q1 26=a:=⟨(low q1 26).toNat,by omega⟩;obtain⟨b',hb'⟩:∃a:Nat,low q2 26=a:=⟨(low q2 26).toNat,by omega⟩;have ha26:a<26:=eu;have hb26:b'<26:=eu;have HA:=ab ha;have HBB:=ab hb';clear ha hb' hp l1 l2;go_upto_region 8 with fail
    go_cut [14,15] from 65 to 98 (fun x y wx=>x=.int .i64 a∧y=.int .i64 b'∧Below wr.heap.size wr wx)
    case first =>
     have d0:∀x:ExtOf wr,x.val.cell? ⟨b,o+i*2,none⟩=some (.int .i64 q1):=ExtOf.cell y0;have d1:∀x:ExtOf wr,x.val.cell? ⟨b,o+i*2+1,none⟩=some (.int .i64 q2):=ExtOf.cell y1;have HLG:Hid (∀(q:Int) (W:World),Calls Tryz.prog 16 #[.int .i64 q,.int .i64 26] W fun e w'=>e=.returned (.int .i64 (low q 26))∧W=w'):=ab fun q W=>Low_any q 26 W ez ez
     refine gN eA eA ?_;repeat (go_big_quiet_step ((go_at_call 16;exact mw (HLG.out _ _))))
     refine wpQuiet_nil ?_;rintro _ ⟨xq,rfl⟩;go_wp2_with fail
     go_meet
     exact⟨by rw [HA.out],by rw [HBB.out],xq.ext⟩
    case rest =>
     obtain⟨rfl,rfl,hbc⟩:=hcut;clear y0 y1;obtain⟨m,hm,hm26⟩:∃m:Nat,(if b'<a then(b':Int) else(a:Int))=(m:Int)∧m<26:=by
      by_cases h:b'<a
      ·exact⟨b',wU h,hb26⟩
      ·exact⟨a,wX h,ha26⟩
     obtain⟨M,hM,hM26⟩:∃M:Nat,(if a<b' then(b':Int) else(a:Int))=(M:Int)∧M<26:=by
      by_cases h:a<b'
      ·exact⟨b',wU h,hb26⟩
      ·exact⟨a,wX h,ha26⟩
     obtain⟨ea,hea⟩:=pick26 hm26;obtain⟨eb,heb⟩:=pick26 hM26;have hl26:=ab26_len;have q1':IntKind.i64.wrap ((m:Int)+1)=(m:Int)+1:=IntWalk.i64_in _ eu;have q2':((m:Int)+1).toNat=m+1:=eu;have q3':IntKind.i64.wrap ((M:Int)+1)=(M:Int)+1:=IntWalk.i64_in _ eu;have q4':((M:Int)+1).toNat=M+1:=eu;have z1:(0:Int)≤(m:Int)+1:=eu;have z2:(m:Int)+1≤26:=eu;have z3:(m:Int)≤(m:Int)+1:=eu;have z4:(0:Int)≤(M:Int)+1:=eu;have z5:(M:Int)+1≤26:=eu;have z6:(M:Int)≤(M:Int)+1:=eu;clear ha26 hb26 hm26 hM26;have hb1d:Below wc.heap.size wc (wc.drew.alloc (.cells #[.string ⟨([ea]).toArray⟩,.string ⟨([eb]).toArray⟩] 58)):=((Below.refl _ _).drew).alloc (wY _) _;have HO1:=ab (gP (gP HOWN.out hbc) hb1d);have HSL:=ab (Sl.lit (n:=1) (sz:=2) (heap_alloc_new wc.drew (.cells #[.string ⟨([ea]).toArray⟩,.string ⟨([eb]).toArray⟩] 58)) rfl);have hzc:w1.heap.size≤(wc.drew.alloc (.cells #[.string ⟨([ea]).toArray⟩,.string ⟨([eb]).toArray⟩] 58)).heap.size:=by have:=hbc.size;simp;omega
     have HBC:=ab ((HB.out.trans (hbc.mono hzb)).trans (hb1d.mono (xb hzb hbc.size)));obtain⟨ir,hir⟩:=HIR.out;clear hb1d;go_upto_region 9 with fail
     go_region_law (first|(refine qP w1.heap.size 58 rfl _ _ 22 rfl Tryz.underlying22 hir rfl ez rfl HO1.out rfl HSL.out eG eu eu ez hzc ?_;intro v8 w8 ho8 hg8 hb8 hm8))
     all_goals
      have ho9:w8.ownsRow w1.heap.size 58 2 v8 (rs.length+1) (gR (rs++[([ea],[eb])])):=by
       rw [t6];exact ho8
      have HO9:=ab ho9;have HB9:=ab (HBC.out.trans hb8);clear ho8 hg8 hb8 hm8 ho9;go_wp2
      go_roundw
      case rel=>exact⟨i+1,rs++[([ea],[eb])],by omega,by simp [HRE.out],by go_num,HB9.out,by rw [xm];exact HO9.out,ab (fun r hr=>by
       rcases xD.1 hr with hr|hr
       ·exact HRL.out r hr
       ·rw [xV.1 hr];exact⟨by simp,by simp⟩)⟩
      case measure=>simp [intOf];omega
   ·skip
    have HUN:Hid (Calls Tryz.prog 24 #[.slice va rs.length vc] wr fun e w'=>UnP rs wr e w'):=ab ((oy va rs.length vc rs wr HOWN.out eu HRL.out eu).mono fun e w' h=>h);have hok:jt (jb rs)∧(jb rs).length≤rs.length:=tw HRL.out;obtain⟨RW,hRW⟩:∃RW,jb rs=RW:=⟨_,rfl⟩;rw [hRW] at hok;have HRW:=ab hRW;have HOK:=ab hok.1;have hrwl:RW.length≤6:=xb hok.2 hrb;have HB2:=ab (HBE.out.trans (HB.out.mono HBE.out.size));clear hRW hok HOWN HRL HIR;go_wp2_with (go_at_call 24;refine HUN.out.mono ?_)
    rintro e w2 ⟨ua,uc,rfl,hus,hbu⟩;rw [HRW.out] at hus ⊢;obtain⟨W3,hW3⟩:∃W3,W3=w2.alloc (.cells #[.int .i64 4,.string ⟨([]).toArray⟩,.bool ng,.slice ua RW.length uc,.int .i64 0,.int .i64 0,.bool false,.slice none 0 0,.slice a2 fs.length c2,.bool false,.bool true] 28):=⟨_,rfl⟩;have hb3:Below w2.heap.size w2 W3:=by rw [hW3];exact(Below.refl _ _).alloc (wY _) _
    have hl3:W3.heap[w2.heap.size]?=some (.cells #[.int .i64 4,.string ⟨([]).toArray⟩,.bool ng,.slice ua RW.length uc,.int .i64 0,.int .i64 0,.bool false,.slice none 0 0,.slice a2 fs.length c2,.bool false,.bool true] 28 (0,0)):=by rw [hW3];exact heap_alloc_new w2 _
    have hbw:=bel2 (bel2 HB2.out hbu) hb3;have hff:SlS W3 (fun _=>True) a2 5 fs.length (iV fs):=⟨((HF.out.keep hbw)).1,fun h=>by
     obtain⟨b,o,h1,h2,h3⟩:=(HF.out.keep hbw).2 h;exact⟨b,o,h1,trivial,xd h2 hbw.size,h3⟩⟩
    have hus3:SlS W3 (fun _=>True) ua 2 RW.length (gR RW):=(hus.keep (Kept.all hb3)).mono fun _ _ _=>trivial
    have HTF:Hid (TfV W3 (fun _=>True) [.int .i64 4,.string ⟨([]).toArray⟩,.bool ng,.slice ua RW.length uc,.int .i64 0,.int .i64 0,.bool false,.slice none 0 0,.slice a2 fs.length c2,.bool false,.bool true] ⟨.mk 4 [] ng RW 0 0 false [],fs,false,true⟩):=ab ⟨_,a2,c2,RxV.close (ks:=[]) hus3 ⟨[],SlS.none_ _ _ _ _,.nil⟩,hff,rfl⟩;have hsmall:(⟨.mk 4 [] ng RW 0 0 false [],fs,false,true⟩:Tf).small:=⟨⟨⟨by simp,by omega,fun r hr=>HOK.out r hr,by simp⟩,trivial⟩,by show 1+0≤1000000;decide,by show fs.length≤1000000;omega⟩;have HSMA:=ab hsmall;have HMAY:=ab (sL _ _ hsmall _ W3 HTF.out);have HUS:=ab hus3;have HL3:=ab hl3;have HBW:=ab hbw;have HW3:=ab hW3;clear hW3 hb3 hl3 hbw hff hus3 hsmall hus hbu HUN;go_upto_region 11 with fail
    rw [←HW3.out];clear HW3;go_wp2_with (first
     | (refine iF rfl 28 (.tmp 16) rfl w2.heap.size 0 rfl [.int .i64 4,.string ⟨([]).toArray⟩,.bool ng,.slice ua RW.length uc,.int .i64 0,.int .i64 0,.bool false,.slice none 0 0,.slice a2 fs.length c2,.bool false,.bool true] _ (iS (ds:=[]) HL3.out) jo rfl fB ?_)
     | (go_at_call 25;refine HMAY.out.mono ?_))
    first|rintro e w4 rfl hb4|rintro e w4 ⟨rfl,hb4⟩
    have HL4:=ab ((hb4.block _ (gI HL3.out)).trans HL3.out);have HB4:=ab (bel2 HBW.out hb4);have HTF4:=ab (HTF.out.later hb4);have HUS4:=ab (HUS.out.keep (Kept.all hb4));clear hb4 HMAY HTF HUS HL3 HBW;cases hmay:qM ⟨.mk 4 [] ng RW 0 0 false [],fs,false,true⟩ with
    | false =>
     clear hmay;go_wp2_with (go_at_call 11;refine(n6 _).mono ?_;rintro e w9 ⟨rfl,hb9⟩)
     go_ret
     exact⟨rfl,bel2 HB4.out hb9⟩
    | true =>
     unfold qM at hmay;simp only [xi] at hmay;have hfl40:fs.length≤40∧(fs.map fun f=>f.thn.length+f.els.length).sum≤40:=eu;obtain⟨k1,e1⟩:=mW (s:=s) (z:=900) hmay.1 hmay.2 hfl40.1 hfl40.2 eu ez;obtain⟨k2,e2⟩:=mW (s:=t) (z:=900) hmay.1 hmay.2 hfl40.1 hfl40.2 eu ez;obtain⟨k3,e3⟩:=mW (s:=s++t) (z:=900) hmay.1 hmay.2 hfl40.1 hfl40.2 fo ez;rw [each_app (o9 s.length s t (wY _) h5)] at e3;have hl:∀u:Str,u.length≤30→(mG fs ng RW u).length≤4000:=fun u hu=>by
      have h9:=uV fs (n:=30) hfl40.1 hfl40.2 (fun c=>hasS RW ng false c) (gM u) (xb (kW u) hu);rw [iX] at h9;unfold mG;omega
     have hl1:=hl s h3;have hl2:=hl t h4;have HNO:=ab (fun h=>uF (fs:=fs) (ng:=ng) (rs:=RW) (s:=s) h);obtain⟨P,hP⟩:∃P,mG fs ng RW s=P:=⟨_,rfl⟩;obtain⟨Q,hQ⟩:∃Q,mG fs ng RW t=Q:=⟨_,rfl⟩;rw [hP] at e1 e3 hl1 HNO;rw [hQ] at e2 e3 hl2;have hfm:∀g∈fs,g.thn.length≤60∧g.els.length≤60:=fun g hg=>by have:=uK hg;omega
     have HXA:Hid (∀(u R:Str) (k:Nat) (W:World),u.length≤60→oq (.mk 4 [] ng RW 0 0 false []) fs false true u 900=(R,(k:Int),0)→TfV W (fun _=>True) [.int .i64 4,.string ⟨([]).toArray⟩,.bool ng,.slice ua RW.length uc,.int .i64 0,.int .i64 0,.bool false,.slice none 0 0,.slice a2 fs.length c2,.bool false,.bool true] ⟨.mk 4 [] ng RW 0 0 false [],fs,false,true⟩ →
       Calls Tryz.prog 12 #[.agg [.int .i64 4,.string ⟨([]).toArray⟩,.bool ng,.slice ua RW.length uc,.int .i64 0,.int .i64 0,.bool false,.slice none 0 0,.slice a2 fs.length c2,.bool false,.bool true].toArray,.string ⟨(u).toArray⟩,.int .i64 900] W fun e w'=>e=.returned (.tuple #[.string ⟨(R).toArray⟩,.int .i64 (k:Int),.int .i64 0])∧Below W.heap.size W w'):=ab fun u R k W hu he hv =>
      mR _ _ _ W hv he HSMA.out (by show fs.length≤1000;omega) (mf:=60) ez hfm eu (fun m _ q hq=>xb (rH u _ m q hq) hu)
     have HE1:=ab e1;have HE2:=ab e2;have HE3:=ab e3;have HA1:=ab (HXA.out s P k1 w4 eu HE1.out HTF4.out);clear hmay hP hQ hl hfm e1 e2 e3 hfl40;go_wp2_with (first
      | (refine iF rfl 28 (.tmp 16) rfl w2.heap.size 0 rfl [.int .i64 4,.string ⟨([]).toArray⟩,.bool ng,.slice ua RW.length uc,.int .i64 0,.int .i64 0,.bool false,.slice none 0 0,.slice a2 fs.length c2,.bool false,.bool true] _ (iS (ds:=[]) HL4.out) jo rfl fB ?_)
      | (go_at_call 12;refine HA1.out.mono ?_))
     first|rintro e w5 rfl hb5|rintro e w5 ⟨rfl,hb5⟩
     have HL5:=ab ((hb5.block _ (gI HL4.out)).trans HL4.out);have HB5:=ab (bel2 HB4.out hb5);have HTF5:=ab (HTF4.out.later hb5);have HUS5:=ab (HUS4.out.keep (Kept.all hb5));have HA2:=ab (HXA.out t Q k2 w5 eu HE2.out HTF5.out);clear hb5 HA1 HL4 HB4 HTF4 HUS4;go_wp2_with (first
      | (refine iF rfl 28 (.tmp 16) rfl w2.heap.size 0 rfl [.int .i64 4,.string ⟨([]).toArray⟩,.bool ng,.slice ua RW.length uc,.int .i64 0,.int .i64 0,.bool false,.slice none 0 0,.slice a2 fs.length c2,.bool false,.bool true] _ (iS (ds:=[]) HL5.out) jo rfl fB ?_)
      | (go_at_call 12;refine HA2.out.mono ?_))
     first|rintro e w6 rfl hb6|rintro e w6 ⟨rfl,hb6⟩
     have HL6:=ab ((hb6.block _ (gI HL5.out)).trans HL5.out);have HB6:=ab (bel2 HB5.out hb6);have HTF6:=ab (HTF5.out.later hb6);have HUS6:=ab (HUS5.out.keep (Kept.all hb6));have HA3:=ab (HXA.out (s++t) (P++Q) k3 w6 fo HE3.out HTF6.out);clear hb6 HA2 HL5 HB5 HTF5 HUS5;go_wp2_with (first
      | (refine iF rfl 28 (.tmp 16) rfl w2.heap.size 0 rfl [.int .i64 4,.string ⟨([]).toArray⟩,.bool ng,.slice ua RW.length uc,.int .i64 0,.int .i64 0,.bool false,.slice none 0 0,.slice a2 fs.length c2,.bool false,.bool true] _ (iS (ds:=[]) HL6.out) jo rfl fB ?_)
      | (go_at_call 12;refine HA3.out.mono ?_))
     first|rintro e w7 rfl hb7|rintro e w7 ⟨rfl,hb7⟩
     have HL7:=ab ((hb7.block _ (gI HL6.out)).trans HL6.out);have HB7:=ab (bel2 HB6.out hb7);have HUS7:=ab (HUS6.out.keep (Kept.all hb7));clear hb7 HA3 HL6 HB6 HTF6 HUS6 HXA HE1 HE2 HE3;obtain⟨cs,hcs⟩:∃cs,gM s=cs:=⟨_,rfl⟩;have hcl:cs.length≤30:=by rw [←hcs];exact xb (kW s) h3
     have HSP:=ab (hcs▸oC s w7 eu);have HCS:=ab hcs;rw [hcs] at HNO;clear hcs;go_wp2_with (go_at_call 19;refine HSP.out.mono ?_)
     rintro e w8 ⟨sa,sc,rfl,hss,hb8⟩;have HSC:=ab (SlS.sl hss);have HL8:=ab ((hb8.block _ (gI HL7.out)).trans HL7.out);have HB8:=ab (bel2 HB7.out hb8);have HUS8:=ab (SlS.sl (HUS7.out.keep (Kept.all hb8)));clear hss hb8 HSP HL7 HB7 HUS7;go_wp2
     go_loopw [27,28] (fun v27 q wr=>EhRel ng RW cs w8 v27 q wr) (fun _ q _=>cs.length-(intOf q).toNat)
     case atStart=>exact⟨0,Nat.zero_le _,by simp,rfl,Below.refl _ _⟩
     case round =>
      obtain⟨i9,hi9,rfl,rfl,hb9⟩:=hrel;have HBR:=ab hb9;clear hb9;by_cases hic:i9<cs.length
      ·obtain⟨ci,hci⟩:∃c,cs[i9]?=some c:=⟨_,wW hic⟩
       have hcil:ci.length≤30:=by
        have h9:=wi s ci (by rw [HCS.out];exact xA hci);omega
       obtain⟨b7,o7,rfl,_,k0⟩:=(HSC.out.keep HBR.out).str hci;have k3:=gL ((HBR.out.block _ (gI HL8.out)).trans HL8.out) 3 rfl;have HST:Hid ((cs.take (i9+1)).any (fun c=>hasS RW ng false c)=((cs.take i9).any (fun c=>hasS RW ng false c)||hasS RW ng false ci)):=ab (by
        rw [List.take_add_one,hci,List.any_append];simp)
       cases hb0:(cs.take i9).any (fun c=>hasS RW ng false c) with
       | true =>
        have HS2:=ab HST.out;rw [hb0,Bool.true_or] at HS2;clear hb0 hci HST k0 k3;go_wp2
        go_quiet (fail)
        go_wp2
        go_roundw
        case rel=>exact⟨i9+1,by omega,by rw [HS2.out],by go_num,below_drewN HBR.out _⟩
        case measure=>simp [intOf];omega
       | false =>
        have HS2:=ab HST.out;rw [hb0,Bool.false_or] at HS2;obtain⟨hv,hhv⟩:∃b,hasS RW ng false ci=b:=⟨_,rfl⟩;rw [hhv] at HS2;have HHS:Hid (∀x:ExtOf wr,Calls Tryz.prog 26 #[.slice ua RW.length uc,.bool ng,.bool false,.string ⟨(ci).toArray⟩] x.val fun e w'=>e=.returned (.bool hv)∧Below x.val.heap.size x.val w'):=ab fun x=>by
         rw [←hhv];have hsl:=((HUS8.out.keep HBR.out).mono HBR.out.size).keep x.ext;exact wG ua RW.length uc RW ng false ci x.val (hsl.mono x.ext.size) eu eu
        have d0:∀x:ExtOf wr,x.val.cell? ⟨b7,o7+i9,none⟩=some (.string ⟨(ci).toArray⟩):=ExtOf.cell k0;have d1:∀x:ExtOf wr,x.val.cell? ⟨w2.heap.size,3,none⟩=some (.slice ua RW.length uc):=ExtOf.cell k3;clear hb0 hci HST hhv k0 k3;go_wp2
        refine gN eA eA ?_;repeat (go_big_quiet_step ((go_at_call 26;exact iy (HHS.out _))))
        refine wpQuiet_nil ?_;rintro _ ⟨xq,rfl⟩;go_wp2
        go_roundw
        case rel=>exact⟨i9+1,by omega,by rw [HS2.out],by go_num,HBR.out.trans (xq.ext.mono HBR.out.size)⟩
        case measure=>simp [intOf];omega
      ·have hie:i9=cs.length:=eu
       subst hie;have hta:cs.take cs.length=cs:=List.take_length;rw [hta];cases hb0:cs.any (fun c=>hasS RW ng false c) with
       | true =>
        exact dR
       | false =>
        have hps:P=s:=HNO.out (fun c hc=>by
         have h9:=List.any_eq_false.1 hb0 c hc;simpa using h9)
        subst hps;exact dR):p:=h
theorem ah {p:Prop} (h:p:=by
 subst hnm2;cases hlt:Op.bytesLess t c with
 | true =>
  have HF2:Hid (none=R0):=ab fT;have HR2:Hid (Except.error 10=R):=ab fA;clear HR;have HR:=HR2;clear HF ht hit hrd hok ht2 ht3 hit2 h93;go_wp2_with (go_at_call 149;refine(g8 _ HRD.out HT.out eB).mono ?_)
  rintro e w3 ⟨rfl,hrd3,hq3⟩;have hgr3:=gG hg hq3;have hown3:=hJ HOWN.out hq3 eu;have HRD3:=ab hrd3;clear hrd3 hq3;go_wp2_with (go_at_call 170;refine(i7 _ HRD3.out).mono ?_)
  rintro e w4 hq;have hq4:=hq.1;have hqe:=hq.2;rw [HIT.out] at hqe;obtain⟨hrd4,hqe⟩:=hqe;rcases hqe with⟨_,rfl⟩|⟨q,_⟩
  case inr=>exact absurd rfl q
  have hgr4:=gG hgr3 hq4;have hown4:=hJ hown3 hq4 eu;have hlt4:=hown4.lt;obtain⟨va,vc,rfl⟩:=gY hown4;have hz4:=hgr4.size;obtain⟨w5,hw5⟩:∃w5,w5=w4.alloc (.cells #[.string ⟨(c).toArray⟩,.string ⟨(c).toArray⟩] 58):=⟨_,rfl⟩;obtain⟨hb5,hz5e,hbr5⟩:=ij w4 hw5;have hz5:w4.heap.size+1≤w5.heap.size:=eu;have HOWN5:=ab (gP hown4 hb5);have HRD5:=ab (hrd4.later hb5);have HBR5:=ab hbr5;have hgr5:=gG hgr4 (gH hb5 (some g));clear hq hq4 hrd4 hown3 hown4 hz5e hbr5 HRD3;obtain⟨ir,hir⟩:=info_parts jl;go_upto_region 10 with fail
  rw [←hw5];clear hw5;obtain⟨lb,lo,lk,li,ln,l0,l1,l2,l3,l4⟩:=HRD5.out.look1;have HSEE:Hid (∀x:ExtOf w5,Calls Tryz.prog 43 #[.pointer (some ⟨g,0,none⟩)] x.val fun e w'=>e=.returned (.string ⟨(([45]:Str)).toArray⟩)∧Below x.val.heap.size x.val w'):=ab fun x=>(iq _ (HRD5.out.later x.ext)).mono fun _ _ ⟨h1,h2⟩=>⟨by rw [h1];rfl,h2.below _⟩
  have d0:∀x:ExtOf w5,x.val.cell? ⟨g,0,none⟩=some (.slice (some ⟨lb,lo,none⟩) ln lk):=ExtOf.cell l0;have d1:∀x:ExtOf w5,x.val.cell? ⟨g,1,none⟩=some (.int .i64 li):=ExtOf.cell l1;have d2:∀x:ExtOf w5,x.val.cell? ⟨lb,lo+(li+1),none⟩=some (.string ⟨(c3).toArray⟩):=ExtOf.cell l4;have gg:decide (ln≤li+1)=false:=by simp;omega
  have gg2:decide ((ln:Int)≤(li:Int)+1)=false:=by simp;omega
  have gn:((li:Int)+1).toNat=li+1:=eu;have gn0:(0:Int)≤(li:Int)+1:=eu;have gn1:(li:Int)+1<(ln:Int):=eu;have gw:IntKind.i64.wrap ((li:Int)+1)=(li:Int)+1:=IntWalk.i64_in _ eu;clear l0 l1 l4;refine gN eA eA ?_;repeat (go_big_quiet_step ((go_at_call 43;exact iy (HSEE.out _))))
  refine wpQuiet_nil ?_;rintro _ ⟨xq,rfl⟩;clear d0 d1 d2 gg gg2 gn gn0 gn1 gw;have hbyq:=(xq.ext.block _ (gI (gJ HBY2.out hgr5 eu))).trans (gJ HBY2.out hgr5 eu);have hrowq:=(xq.ext.block _ (gI HBR5.out)).trans HBR5.out;have hownq:=gP HOWN5.out xq.ext;have hrdq:=HRD5.out.later xq.ext;have hgrq:=gG hgr5 (gH xq.ext (some g));generalize xq.val=wq at *
  clear HSEE;obtain⟨i,hi9,c1,hf,hr6⟩:=hrdq.step;have HRD6:=ab hr6;have hgr6:=gT hgrq 1 (.int .i64 ((i:Int)+1));have HBYQ:=ab (g7 hbyq (a:=⟨g,1,none⟩) ex (.int .i64 ((i:Int)+1)));have HROWQ:=ab (g7 hrowq (a:=⟨g,1,none⟩) ex (.int .i64 ((i:Int)+1)));have HOWNQ:=ab (ku hownq (a:=⟨g,1,none⟩) ex (.int .i64 ((i:Int)+1)));clear hrdq hr6 hbyq hrowq hownq hgrq;go_wp2_with (go_at_call 170;refine(i7 _ HRD6.out).mono ?_)
  rintro e w7 hq;have hq7:=hq.1;have hqe:=hq.2;rw [HIT2.out] at hqe;have hgr7:=gG hgr6 hq7;have hgw7:=gG hg2 hgr7;have hby7:=gJ HBYQ.out hq7 eu;have hrow7:=gJ HROWQ.out hq7 eu;have hown7:=hJ HOWNQ.out hq7 eu;obtain⟨f0,f1,f2,f3,f4,f5,f6,f7,f8⟩:=gK (c:=[]) hby7;obtain⟨hrd7,hqe⟩:=hqe;rcases hqe with⟨_,rfl⟩|⟨q,_⟩
  case inr=>exact absurd rfl q
  have HRD9:=ab hrd7;clear hq hq7 hby7 hrow7 hown7 hrd7;go_wp2
  refine xE (v:=.tuple #[.agg #[.int .i64 0,.string ⟨([]).toArray⟩,.bool false,.slice none 0 0,.int .i64 0,.int .i64 0,.bool false,.slice none 0 0],.int .i64 10]) eJ rfl ?_;refine⟨?_,?_⟩
  ·iterate 8 (refine gO ?_ ex _)
   exact hgw7
  ·rw [←HR.out]
   exact dv
 | false =>
  have HF2:Hid (iL n (rows++[(c,t)]) r4=R0):=ab fT;clear HF ht hit hrd hok ht2 ht3 hit2 h93;go_wp2_with (go_at_call 149;refine(g8 _ HRD.out HT.out eB).mono ?_)
  rintro e w3 ⟨rfl,hrd3,hq3⟩;have hgr3:=gG hg hq3;have hown3:=hJ HOWN.out hq3 eu;have HRD3:=ab hrd3;clear hrd3 hq3;go_wp2_with (go_at_call 170;refine(i7 _ HRD3.out).mono ?_)
  rintro e w4 hq;have hq4:=hq.1;have hqe:=hq.2;rw [HIT.out] at hqe;obtain⟨hrd4,hqe⟩:=hqe;rcases hqe with⟨_,rfl⟩|⟨q,_⟩
  case inr=>exact absurd rfl q
  have hgr4:=gG hgr3 hq4;have hown4:=hJ hown3 hq4 eu;have hlt4:=hown4.lt;obtain⟨va,vc,rfl⟩:=gY hown4;have hz4:=hgr4.size;obtain⟨w5,hw5⟩:∃w5,w5=w4.alloc (.cells #[.string ⟨(c).toArray⟩,.string ⟨(c).toArray⟩] 58):=⟨_,rfl⟩;obtain⟨hb5,hz5e,hbr5⟩:=ij w4 hw5;have hz5:w4.heap.size+1≤w5.heap.size:=eu;have HOWN5:=ab (gP hown4 hb5);have HRD5:=ab (hrd4.later hb5);have HBR5:=ab hbr5;have hgr5:=gG hgr4 (gH hb5 (some g));clear hq hq4 hrd4 hown3 hown4 hz5e hbr5 HRD3;obtain⟨ir,hir⟩:=info_parts jl;go_upto_region 10 with fail
  rw [←hw5];clear hw5;obtain⟨lb,lo,lk,li,ln,l0,l1,l2,l3,l4⟩:=HRD5.out.look1;have HSEE:Hid (∀x:ExtOf w5,Calls Tryz.prog 43 #[.pointer (some ⟨g,0,none⟩)] x.val fun e w'=>e=.returned (.string ⟨(([45]:Str)).toArray⟩)∧Below x.val.heap.size x.val w'):=ab fun x=>(iq _ (HRD5.out.later x.ext)).mono fun _ _ ⟨h1,h2⟩=>⟨by rw [h1];rfl,h2.below _⟩
  have d0:∀x:ExtOf w5,x.val.cell? ⟨g,0,none⟩=some (.slice (some ⟨lb,lo,none⟩) ln lk):=ExtOf.cell l0;have d1:∀x:ExtOf w5,x.val.cell? ⟨g,1,none⟩=some (.int .i64 li):=ExtOf.cell l1;have d2:∀x:ExtOf w5,x.val.cell? ⟨lb,lo+(li+1),none⟩=some (.string ⟨(c3).toArray⟩):=ExtOf.cell l4;have gg:decide (ln≤li+1)=false:=by simp;omega
  have gg2:decide ((ln:Int)≤(li:Int)+1)=false:=by simp;omega
  have gn:((li:Int)+1).toNat=li+1:=eu;have gn0:(0:Int)≤(li:Int)+1:=eu;have gn1:(li:Int)+1<(ln:Int):=eu;have gw:IntKind.i64.wrap ((li:Int)+1)=(li:Int)+1:=IntWalk.i64_in _ eu;clear l0 l1 l4;refine gN eA eA ?_;repeat (go_big_quiet_step ((go_at_call 43;exact iy (HSEE.out _))))
  refine wpQuiet_nil ?_;rintro _ ⟨xq,rfl⟩;clear d0 d1 d2 gg gg2 gn gn0 gn1 gw;have hbyq:=(xq.ext.block _ (gI (gJ HBY2.out hgr5 eu))).trans (gJ HBY2.out hgr5 eu);have hrowq:=(xq.ext.block _ (gI HBR5.out)).trans HBR5.out;have hownq:=gP HOWN5.out xq.ext;have hrdq:=HRD5.out.later xq.ext;have hgrq:=gG hgr5 (gH xq.ext (some g));generalize xq.val=wq at *
  clear HSEE;obtain⟨i,hi9,c1,hf,hr6⟩:=hrdq.step;have HRD6:=ab hr6;have hgr6:=gT hgrq 1 (.int .i64 ((i:Int)+1));have HBYQ:=ab (g7 hbyq (a:=⟨g,1,none⟩) ex (.int .i64 ((i:Int)+1)));have HROWQ:=ab (g7 hrowq (a:=⟨g,1,none⟩) ex (.int .i64 ((i:Int)+1)));have HOWNQ:=ab (ku hownq (a:=⟨g,1,none⟩) ex (.int .i64 ((i:Int)+1)));clear hrdq hr6 hbyq hrowq hownq hgrq;go_wp2_with (go_at_call 170;refine(i7 _ HRD6.out).mono ?_)
  rintro e w7 hq;have hq7:=hq.1;have hqe:=hq.2;rw [HIT2.out] at hqe;have hgr7:=gG hgr6 hq7;have hgw7:=gG hg2 hgr7;have hby7:=gJ HBYQ.out hq7 eu;have hrow7:=gJ HROWQ.out hq7 eu;have hown7:=hJ HOWNQ.out hq7 eu;obtain⟨f0,f1,f2,f3,f4,f5,f6,f7,f8⟩:=gK (c:=[]) hby7;obtain⟨hrd7,hqe⟩:=hqe;rcases hqe with⟨_,rfl⟩|⟨q,_⟩
  case inr=>exact absurd rfl q
  have hrc7:w7.cell? ⟨w4.heap.size,1,none⟩=some (.string ⟨(c).toArray⟩):=by rw [xe hrow7];rfl
  have hrc70:w7.cell? ⟨w4.heap.size,0,none⟩=some (.string ⟨(c).toArray⟩):=by rw [xe hrow7];rfl
  have hfr7:w7.frozen? ⟨w4.heap.size,1,none⟩=false:=by unfold World.frozen?;rw [hrow7];rfl
  have hrowq:(w7.setCell ⟨w4.heap.size,1,none⟩ (.string ⟨(t).toArray⟩)).heap[w4.heap.size]?=some (.cells #[.string ⟨(c).toArray⟩,.string ⟨(t).toArray⟩] 58 (0,0)):=by
   rw [heap_setCell_same w7 _ _ _ _ _ hrow7];rfl
  have hownq:=nb hown7 (a:=⟨w4.heap.size,1,none⟩) (fun e=>by have:=(hlt4 _ e).2;simp at this) (.string ⟨(t).toArray⟩);have hrdq:=hrd7.setHi (a:=⟨w4.heap.size,1,none⟩) eC (.string ⟨(t).toArray⟩);have hgrq:=gO hgr7 (a:=⟨w4.heap.size,1,none⟩) ex (.string ⟨(t).toArray⟩);clear hq hq7 hby7 hrow7 hown7 hrd7;have hrc0:(w7.setCell ⟨w4.heap.size,1,none⟩ (.string ⟨(t).toArray⟩)).cell? ⟨w4.heap.size,0,none⟩=some (.string ⟨(c).toArray⟩):=by rw [xe hrowq];rfl
  have hrc1:(w7.setCell ⟨w4.heap.size,1,none⟩ (.string ⟨(t).toArray⟩)).cell? ⟨w4.heap.size,1,none⟩=some (.string ⟨(t).toArray⟩):=by rw [xe hrowq];rfl
  have hbn:Below (w7.setCell ⟨w4.heap.size,1,none⟩ (.string ⟨(t).toArray⟩)).heap.size (w7.setCell ⟨w4.heap.size,1,none⟩ (.string ⟨(t).toArray⟩)) ((w7.setCell ⟨w4.heap.size,1,none⟩ (.string ⟨(t).toArray⟩)).alloc (.cells #[.string ⟨(c).toArray⟩,.string ⟨(t).toArray⟩] 58)):=(Below.refl _ _).alloc (wY _) _;have HO6:=ab (gP hownq hbn);have hsl6:Sl ((w7.setCell ⟨w4.heap.size,1,none⟩ (.string ⟨(t).toArray⟩)).alloc (.cells #[.string ⟨(c).toArray⟩,.string ⟨(t).toArray⟩] 58)) ((w7.setCell ⟨w4.heap.size,1,none⟩ (.string ⟨(t).toArray⟩)).alloc (.cells #[.string ⟨(c).toArray⟩,.string ⟨(t).toArray⟩] 58)).heap.size (some ⟨w7.heap.size,0,none⟩) 2 1 (gR [(c,t)]):=by
   rw [show w7.heap.size=(w7.setCell ⟨w4.heap.size,1,none⟩ (.string ⟨(t).toArray⟩)).heap.size from by first|rfl|simp [World.setCell]];exact Sl.lit (n:=1) (sz:=2) (heap_alloc_new (w7.setCell ⟨w4.heap.size,1,none⟩ (.string ⟨(t).toArray⟩)) (.cells #[.string ⟨(c).toArray⟩,.string ⟨(t).toArray⟩] 58)) rfl
  have HSL6:=ab hsl6;clear hsl6;have HRD6:=ab (hrdq.later hbn);have hgr6:=gG hgrq (gH hbn (some g));have hz6:=hgr6.size;clear hrowq hownq hrdq hgrq hbn;go_wp2_with (at_builtin;refine g9 w2.heap.size 58 rfl _ _ 22 rfl Tryz.underlying22 hir rfl ez rfl (HO6.out) rfl (HSL6.out) (js [(c,t)]) eu eu ez hz6 ?_)
  intro v7 w7 hown7 hq7 hb7 _;have hown8:w7.ownsRow w2.heap.size 58 2 v7 (rows++[(c,t)]).length (gR (rows++[(c,t)])):=by
   rw [xm,show gR (rows++[(c,t)])=gR rows++gR [(c,t)] from by simp [gR]];exact hown7
  have hrd7:=HRD6.out.grownHi hq7 (fun k hk=>by have:=(hlt4 k hk).1;omega);have hgr7:w2.grownBy w7 (some g):=jX hgr6 hb7 eu;have hrl7:=nw (nm:=[(c,t)]) HRL.out eC;clear hown7 hq7 hb7;go_wp2
  go_roundg n
  case measure=>omega
  case rel=>exact⟨rows++[(c,t)],r4,hown8,hrd7,hgr7,by simp at *;omega,by simp at *;omega,hrl7,HF2⟩):p:=h
theorem ai {p:Prop} (h:p:=by
 have HR:Hid (Except.error 10=R):=ab hR;clear hR hp hl;obtain⟨w0,hw0⟩:∃w0,w0=w.alloc (.cells #[.int .i64 0,.string ⟨#[]⟩,.bool false,.slice none 0 0,.int .i64 0,.int .i64 0,.bool false,.slice none 0 0] 25):=⟨_,rfl⟩;obtain⟨hb0,hz0,hby0⟩:=ij w hw0;have HRD:=ab (h.later hb0);rw [hw0] at HRD;have HW0:=ab hw0;have HBY0:=ab hby0;have hgg:w.grownBy w0 (some g):=gH hb0 _;have hgr:g<w.heap.size:=h.lt;clear hw0 hby0 h;go_enter Tryz.func111,Tryz.ntmps111
 go_wp2_with (go_at_call 144;refine(hZ _ HRD.out).mono ?_)
 rintro e w1 ⟨rfl,hrd1,hq1⟩;rw [←HW0.out] at hq1;have hg1:=gG hgg hq1;have HRD1:=ab hrd1;have HBY1:=ab (gJ HBY0.out hq1 eu);have hz1:=hq1.size;clear hrd1 hq1;obtain⟨f0,f1,f2,f3,f4,f5,f6,f7,f8⟩:=gK (c:=[]) HBY1.out;go_wp2
 refine xE (v:=.tuple #[.agg #[.int .i64 0,.string ⟨([]).toArray⟩,.bool false,.slice none 0 0,.int .i64 0,.int .i64 0,.bool false,.slice none 0 0],.int .i64 10]) eM rfl ?_;refine⟨?_,?_⟩
 ·iterate 8 (refine gO ?_ ex _)
  exact hg1
 ·rw [←HR.out]
  exact dI):p:=h
theorem aj {p:Prop} (h:p:=by
 have HQT:=ab (oL _ HRD6.out hxv6 hz6 eu);clear hat hxv hxv0 hrs hks hrd2 hby2 hb6 hxv6 hz6;unfold rxc at HQT ⊢;go_wp2_with (go_at_call 112;refine HQT.out.mono ?_)
 rintro e w8 hq;clear HQT;cases hres:jG (.mk k c ng rs lo hi lz ks) r3 with
 | error q =>
  rw [hres] at hq;obtain⟨hq8,rfl,r9,hrd9⟩:=hq;have HR2:Hid (Except.error q=R):=ab gF;have HR:=HR2;have hg8:=gG hg6 hq8;have HRD9:=ab hrd9;obtain⟨f0,f1,f2,f3,f4,f5,f6,f7,f8⟩:=gK (c:=[]) (gJ HBY6.out hq8 eu);clear hres hq8 hrd9;unfold rxv0;go_wp2
  refine xE (v:=.tuple #[.agg #[.int .i64 0,.string ⟨([]).toArray⟩,.bool false,.slice none 0 0,.int .i64 0,.int .i64 0,.bool false,.slice none 0 0],.int .i64 q]) eK rfl ?_;refine⟨?_,?_⟩
  ·exact eo
  ·rw [←HR.out]
   exact dv
 | ok y =>
  obtain⟨x,r3⟩:=y;rw [hres] at hq;obtain⟨hq8,cc,rfl,hxv,hrd9⟩:=hq;have HR2:Hid (Except.ok (x,r3)=R):=ab gF;have HR:=HR2;have hg8:=gG hg6 hq8;have HRD9:=ab hrd9;obtain⟨k,c,ng,rs,lo,hi,lz,ks⟩:=x;have hxv0:=hxv;obtain⟨ra,rc,ka,kc,rfl,hrs,hks⟩:=hxv.open_;have HXV:=ab (hxv0.mono (S':=fun b=>w.heap.size≤b∧b≠w.heap.size) fun b hb hlt=>by have:=hz2;constructor<;>omega);obtain⟨f0,f1,f2,f3,f4,f5,f6,f7,f8⟩:=gK (c:=[]) (gJ HBY6.out hq8 eu);clear hres hq8 hrd9 hxv hxv0 hrs hks;unfold rxc at HXV ⊢;go_wp2
  refine xE (v:=.tuple #[.agg #[.int .i64 k,.string ⟨(c).toArray⟩,.bool ng,.slice ra rs.length rc,.int .i64 lo,.int .i64 hi,.bool lz,.slice ka ks.length kc],.int .i64 0]) eK rfl ?_;refine⟨?_,?_⟩
  ·exact eo
  rw [←HR.out];refine⟨rxc k c ng ra rs.length rc lo hi lz ka ks.length kc,rfl,RxV.mono (S:=fun b=>w.heap.size≤b∧b≠w.heap.size) (fun b hb _=>hb.1) ?_,?_⟩
  ·iterate 8 (refine RxV.keep (Kept.setLow _ (fun b hb=>by have:w.heap.size≤b∧b≠w.heap.size:=hb;first|omega|(simp;done)|(simp;omega))) ?_)
   exact HXV.out
  ·iterate 8 (refine RdT.setHi ?_ ex _)
   exact HRD9.out):p:=h
theorem ak {p:Prop} (h:p:=by
 subst h93;have HF2:Hid (iL n (rows++[(c,c)]) ([45]::[93]::r3)=R0):=ab (by rw [←HF.out];simp only [iL,ht,hit,ht2];simp [io]);clear HF ht hit hrd hok ht2;go_wp2_with (go_at_call 149;refine(g8 _ HRD.out HT.out eB).mono ?_)
 rintro e w3 ⟨rfl,hrd3,hq3⟩;have hgr3:=gG hg hq3;have hown3:=hJ HOWN.out hq3 eu;have HRD3:=ab hrd3;clear hrd3 hq3;go_wp2_with (go_at_call 170;refine(i7 _ HRD3.out).mono ?_)
 rintro e w4 hq;have hq4:=hq.1;have hqe:=hq.2;rw [HIT.out] at hqe;obtain⟨hrd4,hqe⟩:=hqe;rcases hqe with⟨_,rfl⟩|⟨q,_⟩
 case inr=>exact absurd rfl q
 have hgr4:=gG hgr3 hq4;have hown4:=hJ hown3 hq4 eu;have hlt4:=hown4.lt;obtain⟨va,vc,rfl⟩:=gY hown4;have hz4:=hgr4.size;obtain⟨w5,hw5⟩:∃w5,w5=w4.alloc (.cells #[.string ⟨(c).toArray⟩,.string ⟨(c).toArray⟩] 58):=⟨_,rfl⟩;obtain⟨hb5,hz5e,hbr5⟩:=ij w4 hw5;have hz5:w4.heap.size+1≤w5.heap.size:=eu;have HOWN5:=ab (gP hown4 hb5);have HRD5:=ab (hrd4.later hb5);have HBR5:=ab hbr5;have hgr5:=gG hgr4 (gH hb5 (some g));clear hq hq4 hrd4 hown3 hown4 hz5e hbr5 HRD3;obtain⟨ir,hir⟩:=info_parts jl;go_upto_region 10 with fail
 rw [←hw5];clear hw5;obtain⟨lb,lo,lk,li,ln,l0,l1,l2,l3,l4⟩:=HRD5.out.look1;have HSEE:Hid (∀x:ExtOf w5,Calls Tryz.prog 43 #[.pointer (some ⟨g,0,none⟩)] x.val fun e w'=>e=.returned (.string ⟨(([45]:Str)).toArray⟩)∧Below x.val.heap.size x.val w'):=ab fun x=>(iq _ (HRD5.out.later x.ext)).mono fun _ _ ⟨h1,h2⟩=>⟨by rw [h1];rfl,h2.below _⟩
 have d0:∀x:ExtOf w5,x.val.cell? ⟨g,0,none⟩=some (.slice (some ⟨lb,lo,none⟩) ln lk):=ExtOf.cell l0;have d1:∀x:ExtOf w5,x.val.cell? ⟨g,1,none⟩=some (.int .i64 li):=ExtOf.cell l1;have d2:∀x:ExtOf w5,x.val.cell? ⟨lb,lo+(li+1),none⟩=some (.string ⟨([93]).toArray⟩):=ExtOf.cell l4;have gg:decide (ln≤li+1)=false:=by simp;omega
 have gg2:decide ((ln:Int)≤(li:Int)+1)=false:=by simp;omega
 have gn:((li:Int)+1).toNat=li+1:=eu;have gn0:(0:Int)≤(li:Int)+1:=eu;have gn1:(li:Int)+1<(ln:Int):=eu;have gw:IntKind.i64.wrap ((li:Int)+1)=(li:Int)+1:=IntWalk.i64_in _ eu;clear l0 l1 l4;refine gN eA eA ?_;repeat (go_big_quiet_step ((go_at_call 43;exact iy (HSEE.out _))))
 refine wpQuiet_nil ?_;rintro _ ⟨xq,rfl⟩;clear d0 d1 d2 gg gg2 gn gn0 gn1 gw;have hrowq:=(xq.ext.block _ (gI HBR5.out)).trans HBR5.out;have hownq:=gP HOWN5.out xq.ext;have hrdq:=HRD5.out.later xq.ext;have hgrq:=gG hgr5 (gH xq.ext (some g));generalize xq.val=wq at *
 clear HSEE;have hrc0:(wq).cell? ⟨w4.heap.size,0,none⟩=some (.string ⟨(c).toArray⟩):=by rw [xe hrowq];rfl
 have hrc1:(wq).cell? ⟨w4.heap.size,1,none⟩=some (.string ⟨(c).toArray⟩):=by rw [xe hrowq];rfl
 have hbn:Below (wq).heap.size (wq) ((wq).alloc (.cells #[.string ⟨(c).toArray⟩,.string ⟨(c).toArray⟩] 58)):=(Below.refl _ _).alloc (wY _) _;have HO6:=ab (gP hownq hbn);have hsl6:Sl ((wq).alloc (.cells #[.string ⟨(c).toArray⟩,.string ⟨(c).toArray⟩] 58)) ((wq).alloc (.cells #[.string ⟨(c).toArray⟩,.string ⟨(c).toArray⟩] 58)).heap.size (some ⟨wq.heap.size,0,none⟩) 2 1 (gR [(c,c)]):=by
  exact dK
 have HSL6:=ab hsl6;clear hsl6;have HRD6:=ab (hrdq.later hbn);have hgr6:=gG hgrq (gH hbn (some g));have hz6:=hgr6.size;clear hrowq hownq hrdq hgrq hbn;go_wp2_with (at_builtin;refine g9 w2.heap.size 58 rfl _ _ 22 rfl Tryz.underlying22 hir rfl ez rfl (HO6.out) rfl (HSL6.out) (js [(c,c)]) eu eu ez hz6 ?_)
 intro v7 w7 hown7 hq7 hb7 _;have hown8:w7.ownsRow w2.heap.size 58 2 v7 (rows++[(c,c)]).length (gR (rows++[(c,c)])):=by
  exact dZ
 have hrd7:=HRD6.out.grownHi hq7 (fun k hk=>by have:=(hlt4 k hk).1;omega);have hgr7:w2.grownBy w7 (some g):=jX hgr6 hb7 eu;have hrl7:=nw (nm:=[(c,c)]) HRL.out eC;clear hown7 hq7 hb7;go_wp2
 go_roundg n
 case measure=>omega
 case rel=>exact⟨rows++[(c,c)],([45]::[93]::r3),hown8,hrd7,hgr7,by simp at *;omega,by simp at *;omega,hrl7,HF2⟩):p:=h
theorem am {p:Prop} (h:p:=by
 have HF2:Hid (none=R0):=ab (by rw [←HF.out];simp only [iL,ht,hit,ht2,ht3,hit2];simp);have HR2:Hid (Except.error 10=R):=ab fA;clear HR;have HR:=HR2;have HIT2:=ab hit2;clear HF ht hit hrd hok ht2 ht3 hit2 h93;go_wp2_with (go_at_call 149;refine(g8 _ HRD.out HT.out eB).mono ?_)
 rintro e w3 ⟨rfl,hrd3,hq3⟩;have hgr3:=gG hg hq3;have hown3:=hJ HOWN.out hq3 eu;have HRD3:=ab hrd3;clear hrd3 hq3;go_wp2_with (go_at_call 170;refine(i7 _ HRD3.out).mono ?_)
 rintro e w4 hq;have hq4:=hq.1;have hqe:=hq.2;rw [HIT.out] at hqe;obtain⟨hrd4,hqe⟩:=hqe;rcases hqe with⟨_,rfl⟩|⟨q,_⟩
 case inr=>exact absurd rfl q
 have hgr4:=gG hgr3 hq4;have hown4:=hJ hown3 hq4 eu;have hlt4:=hown4.lt;obtain⟨va,vc,rfl⟩:=gY hown4;have hz4:=hgr4.size;obtain⟨w5,hw5⟩:∃w5,w5=w4.alloc (.cells #[.string ⟨(c).toArray⟩,.string ⟨(c).toArray⟩] 58):=⟨_,rfl⟩;obtain⟨hb5,hz5e,hbr5⟩:=ij w4 hw5;have hz5:w4.heap.size+1≤w5.heap.size:=eu;have HOWN5:=ab (gP hown4 hb5);have HRD5:=ab (hrd4.later hb5);have HBR5:=ab hbr5;have hgr5:=gG hgr4 (gH hb5 (some g));clear hq hq4 hrd4 hown3 hown4 hz5e hbr5 HRD3;obtain⟨ir,hir⟩:=info_parts jl;go_upto_region 10 with fail
 rw [←hw5];clear hw5;obtain⟨lb,lo,lk,li,ln,l0,l1,l2,l3,l4⟩:=HRD5.out.look1;have HSEE:Hid (∀x:ExtOf w5,Calls Tryz.prog 43 #[.pointer (some ⟨g,0,none⟩)] x.val fun e w'=>e=.returned (.string ⟨(([45]:Str)).toArray⟩)∧Below x.val.heap.size x.val w'):=ab fun x=>(iq _ (HRD5.out.later x.ext)).mono fun _ _ ⟨h1,h2⟩=>⟨by rw [h1];rfl,h2.below _⟩
 have d0:∀x:ExtOf w5,x.val.cell? ⟨g,0,none⟩=some (.slice (some ⟨lb,lo,none⟩) ln lk):=ExtOf.cell l0;have d1:∀x:ExtOf w5,x.val.cell? ⟨g,1,none⟩=some (.int .i64 li):=ExtOf.cell l1;have d2:∀x:ExtOf w5,x.val.cell? ⟨lb,lo+(li+1),none⟩=some (.string ⟨(c3).toArray⟩):=ExtOf.cell l4;have gg:decide (ln≤li+1)=false:=by simp;omega
 have gg2:decide ((ln:Int)≤(li:Int)+1)=false:=by simp;omega
 have gn:((li:Int)+1).toNat=li+1:=eu;have gn0:(0:Int)≤(li:Int)+1:=eu;have gn1:(li:Int)+1<(ln:Int):=eu;have gw:IntKind.i64.wrap ((li:Int)+1)=(li:Int)+1:=IntWalk.i64_in _ eu;clear l0 l1 l4;refine gN eA eA ?_;repeat (go_big_quiet_step ((go_at_call 43;exact iy (HSEE.out _))))
 refine wpQuiet_nil ?_;rintro _ ⟨xq,rfl⟩;clear d0 d1 d2 gg gg2 gn gn0 gn1 gw;have hbyq:=(xq.ext.block _ (gI (gJ HBY2.out hgr5 eu))).trans (gJ HBY2.out hgr5 eu);have hrowq:=(xq.ext.block _ (gI HBR5.out)).trans HBR5.out;have hownq:=gP HOWN5.out xq.ext;have hrdq:=HRD5.out.later xq.ext;have hgrq:=gG hgr5 (gH xq.ext (some g));generalize xq.val=wq at *
 clear HSEE;obtain⟨i,hi9,c1,hf,hr6⟩:=hrdq.step;have HRD6:=ab hr6;have hgr6:=gT hgrq 1 (.int .i64 ((i:Int)+1));have HBYQ:=ab (g7 hbyq (a:=⟨g,1,none⟩) ex (.int .i64 ((i:Int)+1)));have HROWQ:=ab (g7 hrowq (a:=⟨g,1,none⟩) ex (.int .i64 ((i:Int)+1)));have HOWNQ:=ab (ku hownq (a:=⟨g,1,none⟩) ex (.int .i64 ((i:Int)+1)));clear hrdq hr6 hbyq hrowq hownq hgrq;go_wp2_with (go_at_call 170;refine(i7 _ HRD6.out).mono ?_)
 rintro e w7 hq;have hq7:=hq.1;have hqe:=hq.2;rw [HIT2.out] at hqe;have hgr7:=gG hgr6 hq7;have hgw7:=gG hg2 hgr7;have hby7:=gJ HBYQ.out hq7 eu;have hrow7:=gJ HROWQ.out hq7 eu;have hown7:=hJ HOWNQ.out hq7 eu;obtain⟨f0,f1,f2,f3,f4,f5,f6,f7,f8⟩:=gK (c:=[]) hby7;obtain⟨hqe',r9,hrd9⟩:e=.returned (.tuple #[.string ⟨#[]⟩,.slice none 0 0,.int .i64 10])∧∃r,Rd w7 g r d:=hqe;subst hqe';have HRD9:=ab hrd9;clear hq hq7 hby7 hrow7 hown7 hrd9;go_wp2
 refine xE (v:=.tuple #[.agg #[.int .i64 0,.string ⟨([]).toArray⟩,.bool false,.slice none 0 0,.int .i64 0,.int .i64 0,.bool false,.slice none 0 0],.int .i64 10]) eJ rfl ?_;refine⟨?_,?_⟩
 ·iterate 8 (refine gO ?_ ex _)
  exact hgw7
 ·rw [←HR.out]
  exact dv):p:=h
theorem an {p:Prop} (h:p:=by
 have HF2:Hid (none=R0):=ab (by rw [←HF.out];simp only [iL,ht,hit,ht2,ht3,hit2];simp [hnm2]);have HR2:Hid (Except.error 10=R):=ab fA;clear HR;have HR:=HR2;have HNM2:=ab hnm2;clear HF ht hit hrd hok ht2 ht3 hit2 h93 hnm2;go_wp2_with (go_at_call 149;refine(g8 _ HRD.out HT.out eB).mono ?_)
 rintro e w3 ⟨rfl,hrd3,hq3⟩;have hgr3:=gG hg hq3;have hown3:=hJ HOWN.out hq3 eu;have HRD3:=ab hrd3;clear hrd3 hq3;go_wp2_with (go_at_call 170;refine(i7 _ HRD3.out).mono ?_)
 rintro e w4 hq;have hq4:=hq.1;have hqe:=hq.2;rw [HIT.out] at hqe;obtain⟨hrd4,hqe⟩:=hqe;rcases hqe with⟨_,rfl⟩|⟨q,_⟩
 case inr=>exact absurd rfl q
 have hgr4:=gG hgr3 hq4;have hown4:=hJ hown3 hq4 eu;have hlt4:=hown4.lt;obtain⟨va,vc,rfl⟩:=gY hown4;have hz4:=hgr4.size;obtain⟨w5,hw5⟩:∃w5,w5=w4.alloc (.cells #[.string ⟨(c).toArray⟩,.string ⟨(c).toArray⟩] 58):=⟨_,rfl⟩;obtain⟨hb5,hz5e,hbr5⟩:=ij w4 hw5;have hz5:w4.heap.size+1≤w5.heap.size:=eu;have HOWN5:=ab (gP hown4 hb5);have HRD5:=ab (hrd4.later hb5);have HBR5:=ab hbr5;have hgr5:=gG hgr4 (gH hb5 (some g));clear hq hq4 hrd4 hown3 hown4 hz5e hbr5 HRD3;obtain⟨ir,hir⟩:=info_parts jl;go_upto_region 10 with fail
 rw [←hw5];clear hw5;obtain⟨lb,lo,lk,li,ln,l0,l1,l2,l3,l4⟩:=HRD5.out.look1;have HSEE:Hid (∀x:ExtOf w5,Calls Tryz.prog 43 #[.pointer (some ⟨g,0,none⟩)] x.val fun e w'=>e=.returned (.string ⟨(([45]:Str)).toArray⟩)∧Below x.val.heap.size x.val w'):=ab fun x=>(iq _ (HRD5.out.later x.ext)).mono fun _ _ ⟨h1,h2⟩=>⟨by rw [h1];rfl,h2.below _⟩
 have d0:∀x:ExtOf w5,x.val.cell? ⟨g,0,none⟩=some (.slice (some ⟨lb,lo,none⟩) ln lk):=ExtOf.cell l0;have d1:∀x:ExtOf w5,x.val.cell? ⟨g,1,none⟩=some (.int .i64 li):=ExtOf.cell l1;have d2:∀x:ExtOf w5,x.val.cell? ⟨lb,lo+(li+1),none⟩=some (.string ⟨(c3).toArray⟩):=ExtOf.cell l4;have gg:decide (ln≤li+1)=false:=by simp;omega
 have gg2:decide ((ln:Int)≤(li:Int)+1)=false:=by simp;omega
 have gn:((li:Int)+1).toNat=li+1:=eu;have gn0:(0:Int)≤(li:Int)+1:=eu;have gn1:(li:Int)+1<(ln:Int):=eu;have gw:IntKind.i64.wrap ((li:Int)+1)=(li:Int)+1:=IntWalk.i64_in _ eu;clear l0 l1 l4;refine gN eA eA ?_;repeat (go_big_quiet_step ((go_at_call 43;exact iy (HSEE.out _))))
 refine wpQuiet_nil ?_;rintro _ ⟨xq,rfl⟩;clear d0 d1 d2 gg gg2 gn gn0 gn1 gw;have hbyq:=(xq.ext.block _ (gI (gJ HBY2.out hgr5 eu))).trans (gJ HBY2.out hgr5 eu);have hrowq:=(xq.ext.block _ (gI HBR5.out)).trans HBR5.out;have hownq:=gP HOWN5.out xq.ext;have hrdq:=HRD5.out.later xq.ext;have hgrq:=gG hgr5 (gH xq.ext (some g));generalize xq.val=wq at *
 clear HSEE;obtain⟨i,hi9,c1,hf,hr6⟩:=hrdq.step;have HRD6:=ab hr6;have hgr6:=gT hgrq 1 (.int .i64 ((i:Int)+1));have HBYQ:=ab (g7 hbyq (a:=⟨g,1,none⟩) ex (.int .i64 ((i:Int)+1)));have HROWQ:=ab (g7 hrowq (a:=⟨g,1,none⟩) ex (.int .i64 ((i:Int)+1)));have HOWNQ:=ab (ku hownq (a:=⟨g,1,none⟩) ex (.int .i64 ((i:Int)+1)));clear hrdq hr6 hbyq hrowq hownq hgrq;go_wp2_with (go_at_call 170;refine(i7 _ HRD6.out).mono ?_)
 rintro e w7 hq;have hq7:=hq.1;have hqe:=hq.2;rw [HIT2.out] at hqe;have hgr7:=gG hgr6 hq7;have hgw7:=gG hg2 hgr7;have hby7:=gJ HBYQ.out hq7 eu;have hrow7:=gJ HROWQ.out hq7 eu;have hown7:=hJ HOWNQ.out hq7 eu;obtain⟨f0,f1,f2,f3,f4,f5,f6,f7,f8⟩:=gK (c:=[]) hby7;obtain⟨hrd7,hqe⟩:=hqe;rcases hqe with⟨q,_⟩|⟨_,la2,lk2,rfl,_⟩
 case inl=>exact absurd q HNM2.out
 have HRD9:=ab hrd7;clear hq hq7 hby7 hrow7 hown7 hrd7;go_wp2
 refine xE (v:=.tuple #[.agg #[.int .i64 0,.string ⟨([]).toArray⟩,.bool false,.slice none 0 0,.int .i64 0,.int .i64 0,.bool false,.slice none 0 0],.int .i64 10]) eJ rfl ?_;refine⟨?_,?_⟩
 ·iterate 8 (refine gO ?_ ex _)
  exact hgw7
 ·rw [←HR.out]
  exact dv):p:=h
theorem ap {p:Prop} (h:p:=by
 have HF2:Hid (iL n (rows++[(c,c)]) r1=R0):=ab (by rw [←HF.out];simp only [iL,ht,hit,ht2];simp);have hne:=(pA ht2 eB).1;obtain⟨u,hu⟩:∃u,hdS r1=u:=⟨_,rfl⟩;rw [hu] at hne;have HU:=ab hu;clear HF ht hit hrd hok ht2 hu;go_wp2_with (go_at_call 149;refine(g8 _ HRD.out HT.out eB).mono ?_)
 rintro e w3 ⟨rfl,hrd3,hq3⟩;have hgr3:=gG hg hq3;have hown3:=hJ HOWN.out hq3 eu;have HRD3:=ab hrd3;clear hrd3 hq3;go_wp2_with (go_at_call 170;refine(i7 _ HRD3.out).mono ?_)
 rintro e w4 hq;have hq4:=hq.1;have hqe:=hq.2;rw [HIT.out] at hqe;obtain⟨hrd4,hqe⟩:=hqe;rcases hqe with⟨_,rfl⟩|⟨q,_⟩
 case inr=>exact absurd rfl q
 have hgr4:=gG hgr3 hq4;have hown4:=hJ hown3 hq4 eu;have hlt4:=hown4.lt;obtain⟨va,vc,rfl⟩:=gY hown4;have hz4:=hgr4.size;obtain⟨w5,hw5⟩:∃w5,w5=w4.alloc (.cells #[.string ⟨(c).toArray⟩,.string ⟨(c).toArray⟩] 58):=⟨_,rfl⟩;obtain⟨hb5,hz5e,hbr5⟩:=ij w4 hw5;have hz5:w4.heap.size+1≤w5.heap.size:=eu;have HOWN5:=ab (gP hown4 hb5);have HRD5:=ab (hrd4.later hb5);have HBR5:=ab hbr5;have hgr5:=gG hgr4 (gH hb5 (some g));clear hq hq4 hrd4 hown3 hown4 hz5e hbr5 HRD3;obtain⟨ir,hir⟩:=info_parts jl;go_upto_region 10 with fail
 rw [←hw5];clear hw5;have HSEE:Hid (∀x:ExtOf w5,Calls Tryz.prog 43 #[.pointer (some ⟨g,0,none⟩)] x.val fun e w'=>e=.returned (.string ⟨(u).toArray⟩)∧Below x.val.heap.size x.val w'):=ab fun x=>(iq _ (HRD5.out.later x.ext)).mono fun _ _ ⟨h1,h2⟩=>⟨by rw [h1,HU.out],h2.below _⟩
 refine gN eA eA ?_;repeat (go_big_quiet_step ((go_at_call 43;exact iy (HSEE.out _))))
 refine wpQuiet_nil ?_;rintro _ ⟨xq,rfl⟩;have hrowq:=(xq.ext.block _ (gI HBR5.out)).trans HBR5.out;have hownq:=gP HOWN5.out xq.ext;have hrdq:=HRD5.out.later xq.ext;have hgrq:=gG hgr5 (gH xq.ext (some g));generalize xq.val=wq at *
 clear HSEE HU hne;have hrc0:(wq).cell? ⟨w4.heap.size,0,none⟩=some (.string ⟨(c).toArray⟩):=by rw [xe hrowq];rfl
 have hrc1:(wq).cell? ⟨w4.heap.size,1,none⟩=some (.string ⟨(c).toArray⟩):=by rw [xe hrowq];rfl
 have hbn:Below (wq).heap.size (wq) ((wq).alloc (.cells #[.string ⟨(c).toArray⟩,.string ⟨(c).toArray⟩] 58)):=(Below.refl _ _).alloc (wY _) _;have HO6:=ab (gP hownq hbn);have hsl6:Sl ((wq).alloc (.cells #[.string ⟨(c).toArray⟩,.string ⟨(c).toArray⟩] 58)) ((wq).alloc (.cells #[.string ⟨(c).toArray⟩,.string ⟨(c).toArray⟩] 58)).heap.size (some ⟨wq.heap.size,0,none⟩) 2 1 (gR [(c,c)]):=by
  exact dK
 have HSL6:=ab hsl6;clear hsl6;have HRD6:=ab (hrdq.later hbn);have hgr6:=gG hgrq (gH hbn (some g));have hz6:=hgr6.size;clear hrowq hownq hrdq hgrq hbn;go_wp2_with (at_builtin;refine g9 w2.heap.size 58 rfl _ _ 22 rfl Tryz.underlying22 hir rfl ez rfl (HO6.out) rfl (HSL6.out) (js [(c,c)]) eu eu ez hz6 ?_)
 intro v7 w7 hown7 hq7 hb7 _;have hown8:w7.ownsRow w2.heap.size 58 2 v7 (rows++[(c,c)]).length (gR (rows++[(c,c)])):=by
  exact dZ
 have hrd7:=HRD6.out.grownHi hq7 (fun k hk=>by have:=(hlt4 k hk).1;omega);have hgr7:w2.grownBy w7 (some g):=jX hgr6 hb7 eu;have hrl7:=nw (nm:=[(c,c)]) HRL.out eC;clear hown7 hq7 hb7;go_wp2
 go_roundg n
 case measure=>omega
 case rel=>exact⟨rows++[(c,c)],r1,hown8,hrd7,hgr7,by simp at *;omega,by simp at *;omega,hrl7,HF2⟩):p:=h
theorem aq {p:Prop} (h:p:=by
 obtain⟨css,hca,hva⟩:=HOA1.out;obtain⟨csst,hct,hvt⟩:=HOT1.out;obtain⟨ta,tc,rfl⟩:=gY hct;obtain⟨aa,ac,rfl⟩:=gY hca;have HSEQ:=ab (vr w1 ⟨csst,hct,hvt⟩ eu HSM.out.2);have HCA:=ab hca;have HVA:=ab hva;have hlta:=hca.lt;clear hca hva hct hvt;go_wp2_with (go_at_call 18;refine HSEQ.out.mono ?_)
 rintro e w5 hq5;obtain⟨cc5,rfl,hx5,hb5⟩:=hq5;obtain⟨yk,yc,yn,yr,yl,yh,yz,ys,za,zc,zka,zkc,hy,rfl⟩:=hx5.box;rw [hy] at hx5;have hbn:=(Below.refl w5.heap.size w5).alloc (wY _) (.cells (rxc yk yc yn za yr.length zc yl yh yz zka ys.length zkc).toArray 25);have ho6:=gP (gP HCA.out hb5) hbn;have hsl6:=Sl.lit (n:=1) (sz:=8) (heap_alloc_new w5 (.cells (rxc yk yc yn za yr.length zc yl yh yz zka ys.length zkc).toArray 25)) rfl;have hrv6:=(HVA.out.later hb5).later hbn;have hcv6:=hx5.later hbn;have hone:=hx5.one;have hz5:=hb5.size;unfold rxc at ho6 hsl6 hrv6 hcv6 hone hbn;have HO6:=ab ho6;have HSL6:=ab hsl6;have HRV6:=ab hrv6;have HCV6:=ab hcv6;have HONE:=ab hone;have HY:=ab hy;clear ho6 hsl6 hrv6 hcv6 hone hx5 hy HSEQ HCA HVA;unfold rxc;have hlen6:=Rx.len_parts alts;go_wp2_with (at_builtin;refine g9 w0.heap.size 25 rfl _ _ 23 rfl Tryz.underlying23 hix rfl ez rfl HO6.out rfl HSL6.out HONE.out eu eu ez eC ?_)
 intro v7 w7 ho7 hq7 hb7 hmv;have hox7:OwnX w7 w0.heap.size v7 (alts++[seqR terms]):=by
  exact dL
 obtain⟨s1,s2,s3⟩:=mP HSM.out.2 eu;have hpa:Rx.partsL (alts++[seqR terms])≤1000000:=by rw [je];simp only [Rx.partsL];omega
 have hsa:Rx.smallL (alts++[seqR terms]):=jq HSM.out.1 ⟨s1,trivial⟩;obtain⟨a7,n7,c7,hv7⟩:=hox7.form;subst hv7;have HALT:=ab (Alt_res w7 hox7 hpa hsa);have hg05:=gG hgw1 (gH hb5 (some g));have hg06:=gG hg05 (gH hbn (some g));have hg07:=jX hg06 hb7 (wY _);have hrd7:=((HRD1.out.later hb5).later hbn).grownHi hq7 (fun k hk=>by have:=(hlta k hk).1;omega);have HRD7:=ab hrd7;clear hox7 s1 s2 s3 hpa hsa hq7 hmv ho7 hb7 hrd7 hg05 hg06;go_wp2_with (go_at_call 77;refine HALT.out.mono ?_)
 rintro e w8 hq8;obtain⟨cc8,rfl,hx8,hb8⟩:=hq8;have hg08:=gG hg07 (gH hb8 (some g));have hg8:=gG hgg hg08;have HRD8:=ab (HRD7.out.later hb8);have hz07:=hg07.size;obtain⟨xk,xc,xn,xr,xl,xh,xz,xs,xa,xrc,xka,xkc,hy8,rfl⟩:=hx8.box;have HR2:Hid (Except.ok (Rx.mk xk xc xn xr xl xh xz xs,_)=R):=ab (hy8▸HF2.out);have HR:=HR2;rw [hy8] at hx8;have HXV:=ab (hx8.mono (S':=fun b=>w.heap.size≤b∧b≠w.heap.size) fun b hb hlt=>by constructor<;>omega);obtain⟨f0,f1,f2,f3,f4,f5,f6,f7,f8⟩:=gK (c:=[]) (gJ HBY0.out hg08 eu);clear hx8 hy8 HALT hg07 HRD7;unfold rxc at HXV ⊢;go_wp2
 refine xE (v:=.tuple #[.agg #[.int .i64 xk,.string ⟨(xc).toArray⟩,.bool xn,.slice xa xr.length xrc,.int .i64 xl,.int .i64 xh,.bool xz,.slice xka xs.length xkc],.int .i64 0]) fS rfl ?_;refine⟨?_,?_⟩
 ·iterate 8 (refine gO ?_ ex _)
  exact hg8
 rw [←HR.out];refine⟨rxc xk xc xn xa xr.length xrc xl xh xz xka xs.length xkc,rfl,RxV.mono (S:=fun b=>w.heap.size≤b∧b≠w.heap.size) (fun b hb _=>hb.1) ?_,?_⟩
 ·iterate 8 (refine RxV.keep (Kept.setLow _ (fun b hb=>by have:w.heap.size≤b∧b≠w.heap.size:=hb;first|omega|(simp;done)|(simp;omega))) ?_)
  exact HXV.out
 ·iterate 8 (refine RdT.setHi ?_ ex _)
  exact HRD8.out):p:=h
theorem ar {p:Prop} (h:p:=by
 have HF2:Hid (none=R0):=ab (by rw [←HF.out];simp only [iL,ht,hit,ht2];simp [io,mq]);have HR2:Hid (Except.error 10=R):=ab fA;clear HR;have HR:=HR2;clear HF ht hit hrd hok ht2;go_wp2_with (go_at_call 149;refine(g8 _ HRD.out HT.out eB).mono ?_)
 rintro e w3 ⟨rfl,hrd3,hq3⟩;have hgr3:=gG hg hq3;have hown3:=hJ HOWN.out hq3 eu;have HRD3:=ab hrd3;clear hrd3 hq3;go_wp2_with (go_at_call 170;refine(i7 _ HRD3.out).mono ?_)
 rintro e w4 hq;have hq4:=hq.1;have hqe:=hq.2;rw [HIT.out] at hqe;obtain⟨hrd4,hqe⟩:=hqe;rcases hqe with⟨_,rfl⟩|⟨q,_⟩
 case inr=>exact absurd rfl q
 have hgr4:=gG hgr3 hq4;have hown4:=hJ hown3 hq4 eu;have hlt4:=hown4.lt;obtain⟨va,vc,rfl⟩:=gY hown4;have hz4:=hgr4.size;obtain⟨w5,hw5⟩:∃w5,w5=w4.alloc (.cells #[.string ⟨(c).toArray⟩,.string ⟨(c).toArray⟩] 58):=⟨_,rfl⟩;obtain⟨hb5,hz5e,hbr5⟩:=ij w4 hw5;have hz5:w4.heap.size+1≤w5.heap.size:=eu;have HOWN5:=ab (gP hown4 hb5);have HRD5:=ab (hrd4.later hb5);have HBR5:=ab hbr5;have hgr5:=gG hgr4 (gH hb5 (some g));clear hq hq4 hrd4 hown3 hown4 hz5e hbr5 HRD3;obtain⟨ir,hir⟩:=info_parts jl;go_upto_region 10 with fail
 rw [←hw5];clear hw5;obtain⟨la,lk,li,ln,l0,l1,l2,l3⟩:=HRD5.out.look0;have HSEE:Hid (∀x:ExtOf w5,Calls Tryz.prog 43 #[.pointer (some ⟨g,0,none⟩)] x.val fun e w'=>e=.returned (.string ⟨(([45]:Str)).toArray⟩)∧Below x.val.heap.size x.val w'):=ab fun x=>(iq _ (HRD5.out.later x.ext)).mono fun _ _ ⟨h1,h2⟩=>⟨by rw [h1];rfl,h2.below _⟩
 have d0:∀x:ExtOf w5,x.val.cell? ⟨g,0,none⟩=some (.slice la ln lk):=ExtOf.cell l0;have d1:∀x:ExtOf w5,x.val.cell? ⟨g,1,none⟩=some (.int .i64 li):=ExtOf.cell l1;have gg:decide (ln≤li+1)=true:=by simp;omega
 have gg2:decide ((ln:Int)≤(li:Int)+1)=true:=by simp;omega
 have gw:IntKind.i64.wrap ((li:Int)+1)=(li:Int)+1:=IntWalk.i64_in _ eu;clear l0 l1;refine gN eA eA ?_;repeat (go_big_quiet_step ((go_at_call 43;exact iy (HSEE.out _))))
 refine wpQuiet_nil ?_;rintro _ ⟨xq,rfl⟩;have hbyq:=(xq.ext.block _ (gI (gJ HBY2.out hgr5 eu))).trans (gJ HBY2.out hgr5 eu);have hrdq:=HRD5.out.later xq.ext;have hgrq:=gG hgr5 (gH xq.ext (some g));generalize xq.val=wq at *
 clear HSEE gg gg2 gw;obtain⟨i,hi9,c1,hf,hr6⟩:=hrdq.step;have HRD6:=ab hr6;have hgr6:=gT hgrq 1 (.int .i64 ((i:Int)+1));have hbyq2:=g7 hbyq (a:=⟨g,1,none⟩) ex (.int .i64 ((i:Int)+1));clear hrdq hr6 hbyq;go_wp2_with (go_at_call 170;refine(i7 _ HRD6.out).mono ?_)
 rintro e w7 hq;have hq7:=hq.1;obtain⟨hqe',r9,hrd9⟩:e=.returned (.tuple #[.string ⟨#[]⟩,.slice none 0 0,.int .i64 10])∧∃r,Rd w7 g r d:=hq.2;subst hqe';have HRD9:=ab hrd9;clear hrd9;have hgr7:=gG hgr6 hq7;have hgw7:=gG hg2 hgr7;obtain⟨f0,f1,f2,f3,f4,f5,f6,f7,f8⟩:=gK (c:=[]) (gJ hbyq2 hq7 eu);clear hq hq7 hbyq2;go_wp2
 refine xE (v:=.tuple #[.agg #[.int .i64 0,.string ⟨([]).toArray⟩,.bool false,.slice none 0 0,.int .i64 0,.int .i64 0,.bool false,.slice none 0 0],.int .i64 10]) eJ rfl ?_;refine⟨?_,?_⟩
 ·iterate 8 (refine gO ?_ ex _)
  exact hgw7
 ·rw [←HR.out]
  exact dv):p:=h
theorem au {p:Prop} (h:p:=by
 cases small with
 | false =>
  go_wp2_with (first|(go_at_call 125;refine(l6 _ _ eu eu).mono ?_;rintro e w1 ⟨rfl,rfl⟩)|(go_at_call 88;refine(l7 _ _ eu eu).mono ?_;rintro e w1 ⟨rfl,rfl⟩)|(go_at_call 126;refine(jR w.heap.size _ acc _ _ hbl eu hB eu (by have:=nS (upB c);simp;omega)).mono ?_))
  rintro e w2 ⟨rfl,hbl2,hfr2⟩;simp only [Int.toNat_natCast,UInt8.ofNat_toNat] at hbl2;clear hw;have hB3:=hbl2.lt;go_wp2_with fail
  go_roundw
  case rel =>
   refine⟨i+1,acc++[upB c],true,by omega,by go_num,hbl2,hb.trans (hfr2.below hB eB),?_,ab ⟨fun h=>by omega,fun _ x hx=>?_⟩,?_⟩
   ·exact eh
   ·exact dC
   ·refine ab ?_
    rw [Hr.out,←HF'.out];conv=>rhs;unfold kw;rw [wU HW.out,wX eB,wX eB]
  case measure=>simp [intOf];omega
 | true =>
  by_cases hacc0:acc=[]
  ·subst hacc0
   go_wp2_with (first|(go_at_call 125;refine(l6 _ _ eu eu).mono ?_;rintro e w1 ⟨rfl,rfl⟩)|(go_at_call 127;refine(uQ _ _ _ _ hbl).mono ?_;rintro e w1 ⟨rfl,rfl⟩)|(go_at_call 89;refine(qA _ _ eu eu).mono ?_;rintro e w1 ⟨rfl,rfl⟩)|(go_at_call 126;refine(jR w.heap.size _ [] _ _ hbl eB hB eu (by have:=nS (lowB c);simp;omega)).mono ?_))
   rintro e w2 ⟨rfl,hbl2,hfr2⟩;simp only [Int.toNat_natCast,UInt8.ofNat_toNat] at hbl2;clear hw;have hB3:=hbl2.lt;go_wp2_with fail
   go_roundw
   case rel =>
    refine⟨i+1,[]++[lowB c],true,by omega,by go_num,hbl2,hb.trans (hfr2.below hB eB),?_,ab ⟨fun h=>by omega,fun _ x hx=>?_⟩,?_⟩
    ·exact eh
    ·exact dC
    ·refine ab ?_
     rw [Hr.out,←HF'.out];conv=>rhs;unfold kw;rw [wU HW.out,wX eB,wU ⟨rfl,rfl⟩]
   case measure=>simp [intOf];omega
  ·have hl0:((acc.length:Int)==0)=false:=by
    rw [xH];intro h;exact hacc0 (wV eu)
   have HA:=ab hacc0;clear hacc0;go_wp2_with (first|(go_at_call 125;refine(l6 _ _ eu eu).mono ?_;rintro e w1 ⟨rfl,rfl⟩)|(go_at_call 127;refine(uQ _ _ _ _ hbl).mono ?_;rintro e w1 ⟨rfl,rfl⟩)|(go_at_call 88;refine(l7 _ _ eu eu).mono ?_;rintro e w1 ⟨rfl,rfl⟩)|(go_at_call 126;refine(jR w.heap.size _ acc _ _ hbl eu hB eu (by have:=nS (upB c);simp;omega)).mono ?_))
   rintro e w2 ⟨rfl,hbl2,hfr2⟩;simp only [Int.toNat_natCast,UInt8.ofNat_toNat] at hbl2;clear hw;have hB3:=hbl2.lt;go_wp2_with fail
   go_roundw
   case rel =>
    refine⟨i+1,acc++[upB c],true,by omega,by go_num,hbl2,hb.trans (hfr2.below hB eB),?_,ab ⟨fun h=>by omega,fun _ x hx=>?_⟩,?_⟩
    ·exact eh
    ·exact dC
    ·refine ab ?_
     rw [Hr.out,←HF'.out];conv=>rhs;unfold kw;rw [wU HW.out,wX eB,wX (fun h=>HA.out h.2)]
   case measure=>simp [intOf];omega):p:=h
theorem av {p:Prop} (h:p:=by
 obtain⟨x,r3⟩:=y;rw [hpr] at hq;obtain⟨hq5,cc,rfl,hxv,hrd5⟩:=hq;have hby5:=gJ HBY2.out hq5 eu;have hbl5:Below w.heap.size w w5:=s5 hbw2 hq5 eu;have hz5:=hbl5.size;have hq5z:=hq5.size;obtain⟨k,c,ng,rs,lo,hi,lz,ks,ra,rc,ka,kc,hx,rfl⟩:=hxv.box;have hb6:Below w5.heap.size w5 (w5.alloc (.cells (rxc k c ng ra rs.length rc lo hi lz ka ks.length kc).toArray 25)):=(Below.refl _ _).alloc (wY _) _;have hbl6:=hbl5.trans (hb6.mono hz5);have HRD6:=ab (hrd5.later hb6);have HXV:=ab ((hxv.mono (S':=fun b=>w.heap.size≤b∧b≠w.heap.size) fun b hb hlt=>by constructor<;>omega).later hb6);have HBY6:=ab ((hb6.block _ (gI hby5)).trans hby5);have HBX6:Hid ((w5.alloc (.cells (rxc k c ng ra rs.length rc lo hi lz ka ks.length kc).toArray 25)).heap[w5.heap.size]?=some (.cells (rxc k c ng ra rs.length rc lo hi lz ka ks.length kc).toArray 25 (0,0))):=ab (heap_alloc_new w5 _);clear hxv hrd5 hby5 hb6;unfold rxc at hbl6 HRD6 HXV HBY6 HBX6 ⊢;cases r3 with
 | nil =>
  have HR2:Hid (Except.ok x=R):=ab fH;have HR:=HR2;rw [hx] at HR HXV;clear hpr hx HR2;go_wp2_with (go_at_call 43;refine(iq _ HRD6.out).mono ?_)
  rintro e w7 ⟨rfl,hst⟩;have e0:hdS []=[]:=rfl;rw [e0];have hb7:=hst.below w.heap.size;have hbl7:=hbl6.trans hb7;have HXV7:=ab (HXV.out.later (hst.below _));obtain⟨f0,f1,f2,f3,f4,f5,f6,f7,f8⟩:=gK (c:=[]) (((hst.below _).block _ (gI HBY6.out)).trans HBY6.out);obtain⟨e0,e1,e2,e3,e4,e5,e6,e7,e8⟩:=gK (((hst.below _).block _ (gI HBX6.out)).trans HBX6.out);clear hst hb7;go_wp2
  refine xE (v:=.tuple #[.agg #[.int .i64 k,.string ⟨(c).toArray⟩,.bool ng,.slice ra rs.length rc,.int .i64 lo,.int .i64 hi,.bool lz,.slice ka ks.length kc],.int .i64 0]) eP rfl ?_;refine⟨?_,?_⟩
  ·exact el
  rw [←HR.out];refine⟨rxc k c ng ra rs.length rc lo hi lz ka ks.length kc,rfl,RxV.mono (S:=fun b=>w.heap.size≤b∧b≠w.heap.size) (fun b hb _=>hb.1) ?_⟩;iterate 8 (refine RxV.keep (Kept.setLow _ (fun b hb=>by have:w.heap.size≤b∧b≠w.heap.size:=hb;first|omega|(simp;done)|(simp;omega))) ?_)
  exact HXV7.out
 | cons p r4 =>
  have HR2:Hid (Except.error 10=R):=ab fH;have HR:=HR2;have hp0:=HRD6.out.pos.1;have hp1:List.isEmpty p=false:=by cases p<;>simp at hp0 ⊢
  have hp2:(!List.isEmpty p)=true:=by rw [hp1];rfl
  clear hpr hx HR2 hp0;go_wp2_with (go_at_call 43;refine(iq _ HRD6.out).mono ?_)
  rintro e w7 ⟨rfl,hst⟩;rw [iB];have hbl7:=hbl6.trans (hst.below w.heap.size);obtain⟨f0,f1,f2,f3,f4,f5,f6,f7,f8⟩:=gK (c:=[]) (((hst.below _).block _ (gI HBY6.out)).trans HBY6.out);clear hst;go_wp2
  refine xE (v:=.tuple #[.agg #[.int .i64 0,.string ⟨([]).toArray⟩,.bool false,.slice none 0 0,.int .i64 0,.int .i64 0,.bool false,.slice none 0 0],.int .i64 10]) eP rfl ?_;refine⟨?_,?_⟩
  ·exact el
  ·rw [←HR.out];rfl):p:=h
theorem aw {p:Prop} (h:p:=by
 go_wp2_with (go_at_call 57;refine(iO w.heap.size _ acc _ _ eY eu fb gm).mono ?_;rintro e w2 ⟨rfl,hbl2,hfr2⟩)
 go_roundw
 case rel =>
  refine⟨k+1,acc++els,by omega,by go_num,hbl2,?_,ab ?_,ab ?_⟩
  ·exact dH
  ·exact dy
  ·exact dJ
 case measure=>simp [intOf];omega):p:=h
theorem ax {p:Prop} (h:p:=by
 have hb6:Below w2.heap.size w2 (w2.alloc (.cells #[.int .i64 0,.string ⟨#[]⟩,.bool false,.slice none 0 0,.int .i64 0,.int .i64 0,.bool false,.slice none 0 0] 25)):=(Below.refl _ _).alloc (wY _) _;have HRD6:=ab (hrd9.later hb6);have hg6:=gG hg2 (gH hb6 (some g));have ne1:(q != 0)=true:=by simp [bne,hq0]
 obtain⟨f0,f1,f2,f3,f4,f5,f6,f7,f8⟩:=gK (c:=[]) ((hb6.block _ (gI hby2)).trans hby2);clear hat hby2 hrd9 hb6 hq2;unfold rxv0;go_wp2
 refine xE (v:=.tuple #[.agg #[.int .i64 0,.string ⟨([]).toArray⟩,.bool false,.slice none 0 0,.int .i64 0,.int .i64 0,.bool false,.slice none 0 0],.int .i64 q]) eK rfl ?_;refine⟨?_,?_⟩
 ·iterate 8 (refine gO ?_ ex _)
  exact hg6
 ·rw [←HR.out]
  exact dY):p:=h
theorem ay {p:Prop} (h:p:=by
 refine xE (v:=.tuple #[tfv0,.int .i64 0,.bool false]) (by simp [results,Tryz.results14,go_sem,tfv0,z0,z1,z2,z3,z4,z5,z6,z7,z8,z9,z10]) rfl ⟨?_,by rw [HE.out];try rfl⟩
 (repeat (first|with_reducible exact Below.refl _ _|with_reducible assumption|(refine Below.setCell ?_ eI _)|(refine Below.alloc ?_ eD _)|(refine Below.drew ?_)))):p:=h
theorem aA {p:Prop} (h:p:=by
 obtain⟨x,r3⟩:=y;rw [hres] at hq;obtain⟨hq8,cc,rfl,hxv,hrd9⟩:=hq;have HR2:Hid (Except.ok (x,r3)=R):=ab gF;have HR:=HR2;have hg8:=gG hg1 hq8;have HRD9:=ab hrd9;obtain⟨k,c,ng,rs,lo,hi,lz,ks⟩:=x;have hxv0:=hxv;obtain⟨ra,rc,ka,kc,rfl,hrs,hks⟩:=hxv.open_;have HXV:=ab (hxv0.mono (S':=fun b=>w.heap.size≤b∧b≠w.heap.size) fun b hb hlt=>by have:=hz1;constructor<;>omega);obtain⟨f0,f1,f2,f3,f4,f5,f6,f7,f8⟩:=gK (c:=[]) (gJ HBY1.out hq8 eu);clear hres hq8 hrd9 hxv hxv0 hrs hks;unfold rxc at HXV ⊢;go_wp2
 refine xE (v:=.tuple #[.agg #[.int .i64 k,.string ⟨(c).toArray⟩,.bool ng,.slice ra rs.length rc,.int .i64 lo,.int .i64 hi,.bool lz,.slice ka ks.length kc],.int .i64 0]) eM rfl ?_;refine⟨?_,?_⟩
 ·iterate 8 (refine gO ?_ ex _)
  exact hg8
 rw [←HR.out];refine⟨rxc k c ng ra rs.length rc lo hi lz ka ks.length kc,rfl,RxV.mono (S:=fun b=>w.heap.size≤b∧b≠w.heap.size) (fun b hb _=>hb.1) ?_,?_⟩
 ·iterate 8 (refine RxV.keep (Kept.setLow _ (fun b hb=>by have:w.heap.size≤b∧b≠w.heap.size:=hb;first|omega|(simp;done)|(simp;omega))) ?_)
  exact HXV.out
 ·iterate 8 (refine RdT.setHi ?_ ex _)
  exact HRD9.out):p:=h
theorem aB {p:Prop} (h:p:=by
 have HE':Hid (R=some (⟨4,n,0,[],t⟩,r2)):=ab gu;clear hU HE;go_enter Tryz.func100,Tryz.ntmps100
 go_wp2_with (first|(go_at_call 99;refine(jc _ _ _ _ eu eu eB).mono ?_;rintro e w1 ⟨rfl,rfl⟩)|(go_at_call 139;refine(ly _ eu eu eu eu HU.out).mono ?_;rintro e w1 ⟨hb1,hlt,j,hj1,hj2,hj3,rfl⟩;obtain⟨hc1,hf1⟩:=mJ hb1;have z0:w1.cell? ⟨w.heap.size,0,none⟩=some (.int .i64 0):= ew;have z1:w1.cell? ⟨w.heap.size,1,none⟩=some (.int .i64 0):= ew;have z2:w1.cell? ⟨w.heap.size,2,none⟩=some (.int .i64 0):= ew;have z3:w1.cell? ⟨w.heap.size,3,none⟩=some (.string ⟨#[]⟩):= ew;have z4:w1.cell? ⟨w.heap.size,4,none⟩=some (.string ⟨#[]⟩):= ew;have y0:w1.cell? ⟨w.heap.size+1,0,none⟩=some (.int .i64 4):= ew;have y1:w1.cell? ⟨w.heap.size+1,1,none⟩=some (.int .i64 ↑n):= ew;have y2:w1.cell? ⟨w.heap.size+1,2,none⟩=some (.int .i64 0):= ew;have y3:w1.cell? ⟨w.heap.size+1,3,none⟩=some (.string ⟨#[]⟩):= ew;have y4:w1.cell? ⟨w.heap.size+1,4,none⟩=some (.string ⟨#[]⟩):= ew;have hbw:Below w.heap.size w w1:=((((Below.refl w.heap.size w).alloc (wY _) _).alloc eB _).trans (hb1.mono eC));have HJ3:=ab hj3;clear hj3))
 refine xE (v:=.tuple #[.agg #[.int .i64 4,.int .i64 n,.int .i64 0,.string ⟨([]).toArray⟩,.string ⟨(t).toArray⟩],.int .i64 (j+1),.bool true]) eO rfl ⟨?_,?_⟩
 ·(repeat (first|with_reducible exact Below.refl _ _|with_reducible assumption|(refine Below.setCell ?_ eI _)|(refine Below.alloc ?_ eD _)|(refine Below.drew ?_)))
 ·rw [HE'.out]
  exact d9):p:=h
theorem aC {p:Prop} (h:p:=by
 have HE':Hid (R=none):=ab gu;clear hU HE;go_enter Tryz.func100,Tryz.ntmps100
 go_wp2_with (first|(go_at_call 99;refine(jc _ _ _ _ eu eu eB).mono ?_;rintro e w1 ⟨rfl,rfl⟩)|(go_at_call 139;refine(kp _ eu eu eu eu HU.out).mono ?_;rintro e w1 ⟨hb1,rfl⟩;obtain⟨hc1,hf1⟩:=mJ hb1;have z0:w1.cell? ⟨w.heap.size,0,none⟩=some (.int .i64 0):= ew;have z1:w1.cell? ⟨w.heap.size,1,none⟩=some (.int .i64 0):= ew;have z2:w1.cell? ⟨w.heap.size,2,none⟩=some (.int .i64 0):= ew;have z3:w1.cell? ⟨w.heap.size,3,none⟩=some (.string ⟨#[]⟩):= ew;have z4:w1.cell? ⟨w.heap.size,4,none⟩=some (.string ⟨#[]⟩):= ew;have y0:w1.cell? ⟨w.heap.size+1,0,none⟩=some (.int .i64 4):= ew;have y1:w1.cell? ⟨w.heap.size+1,1,none⟩=some (.int .i64 ↑n):= ew;have y2:w1.cell? ⟨w.heap.size+1,2,none⟩=some (.int .i64 0):= ew;have y3:w1.cell? ⟨w.heap.size+1,3,none⟩=some (.string ⟨#[]⟩):= ew;have y4:w1.cell? ⟨w.heap.size+1,4,none⟩=some (.string ⟨#[]⟩):= ew;have hbw:Below w.heap.size w w1:=((((Below.refl w.heap.size w).alloc (wY _) _).alloc eB _).trans (hb1.mono eC))))
 refine xE (v:=.tuple #[.agg #[.int .i64 0,.int .i64 0,.int .i64 0,.string ⟨#[]⟩,.string ⟨#[]⟩],.int .i64 0,.bool false]) eO rfl ⟨?_,by rw [HE'.out];rfl⟩
 (repeat (first|with_reducible exact Below.refl _ _|with_reducible assumption|(refine Below.setCell ?_ eI _)|(refine Below.alloc ?_ eD _)|(refine Below.drew ?_)))):p:=h
theorem aD {p:Prop} (h:p:=by
 by_cases hk0:0<k
 ·by_cases hn:n≤255
  ·have HF3:Hid (some (n,r)=R):=ab (by rw [←HF2.out,wU ⟨hk0,hn⟩])
   have hnb:decide ((n:Int)≤255)=true:=by simp;omega
   clear HF2;go_wp2
   go_ret2
   exact⟨hg,by rw [←HF3.out];exact⟨rfl,hn,HRD.out⟩⟩
  ·have HF3:Hid (none=R):=ab (by rw [←HF2.out,wX (fun q=>hn q.2)])
   have hnb:decide ((n:Int)≤255)=false:=by simp;omega
   exact em
 ·have HF3:Hid (none=R):=ab (by rw [←HF2.out,wX (fun q=>hk0 q.1)])
  exact em):p:=h
theorem aE {p:Prop} (h:p:=by
 have HB:=ab hbv;have HR:Hid (R=false):=ab fp;clear hbv;go_enter Tryz.func116,Tryz.ntmps116
 go_wp2_with (go_at_call 151;refine(jD _ HB.out).mono ?_;rintro e w1 ⟨rfl,hb1,hc1⟩;have hq7:=hc1 ⟨w.heap.size,7,none⟩ (.slice ka (ks.length) kc) eB)
 go_ret
 exact⟨gX HR.out.symm,((Below.refl _ _).alloc (wY _) _).trans (hb1.mono eB)⟩):p:=h
theorem aF {p:Prop} (h:p:=by
 go_wp2_with (go_at_call 57;refine(iO w.heap.size _ acc _ _ eY eu fb gm).mono ?_;rintro e w2 ⟨rfl,hbl2,hfr2⟩)
 go_roundw
 case rel =>
  refine⟨k+1,acc++thn,by omega,by go_num,hbl2,?_,ab ?_,ab ?_⟩
  ·exact dH
  ·exact dy
  ·exact dJ
 case measure=>simp [intOf];omega):p:=h
theorem aG {p:Prop} (h:p:=by
 refine xE (v:=.tuple #[.agg #[.int .i64 0,.int .i64 0,.int .i64 0,.string ⟨#[]⟩,.string ⟨#[]⟩],.int .i64 0,.bool false]) fZ rfl ⟨?_,by rw [HE.out];rfl⟩
 (repeat (first|with_reducible exact Below.refl _ _|with_reducible assumption|(refine Below.setCell ?_ eI _)|(refine Below.alloc ?_ eD _)|(refine Below.drew ?_)))):p:=h
theorem aH {p:Prop} (h:p:=by
 have HF2:Hid (iL n (rows++nm) r1=R0):=ab (by rw [←HF.out];simp only [iL,ht,hit];rw [wU hnm]);have HNM:=ab hnm;clear HF ht hit hrd hok hnm;go_wp2_with (go_at_call 149;refine(g8 _ HRD.out HT.out eB).mono ?_)
 rintro e w3 ⟨rfl,hrd3,hq3⟩;have hgr3:=gG hg hq3;have hown3:=hJ HOWN.out hq3 eu;have HRD3:=ab hrd3;clear hrd3 hq3;go_wp2_with (go_at_call 170;refine(i7 _ HRD3.out).mono ?_)
 rintro e w4 hq;have hq4:=hq.1;have hqe:=hq.2;rw [HIT.out] at hqe;obtain⟨hrd4,hqe⟩:=hqe;rcases hqe with⟨q,_⟩|⟨_,a,k,rfl,hsl⟩
 ·exact absurd q HNM.out
 have hgr4:=gG hgr3 hq4;have hown4:=hJ hown3 hq4 eu;have hlt4:=hown4.lt;obtain⟨va,vc,rfl⟩:=gY hown4;have HOWN4:=ab hown4;have HSL:=ab hsl.sl;have HRD4:=ab hrd4;clear hq hq4 hsl hrd4 hown3 hown4;obtain⟨ir,hir⟩:=info_parts jl;have hz4:=hgr4.size;go_wp2_with (at_builtin;refine g9 w2.heap.size 58 rfl _ _ 22 rfl Tryz.underlying22 hir rfl ez rfl (HOWN4.out) rfl (HSL.out) (js nm) eu eu ez hz4 ?_)
 intro v5 w5 hown5 hq5 hb5 _;have hown6:w5.ownsRow w2.heap.size 58 2 v5 (rows++nm).length (gR (rows++nm)):=by
  rw [xm,show gR (rows++nm)=gR rows++gR nm from by simp [gR]];exact hown5
 have hrd5:=HRD4.out.grownHi hq5 (fun k hk=>by have:=(hlt4 k hk).1;omega);have hgr5:w2.grownBy w5 (some g):=jX hgr4 hb5 eu;have hrl5:=nw HRL.out HI4.out;clear hown5 hq5 hb5;go_wp2
 go_roundg n
 case measure=>omega
 case rel=>exact⟨rows++nm,r1,hown6,hrd5,hgr5,by rw [xm];omega,by omega,hrl5,HF2⟩):p:=h
theorem aI {p:Prop} (h:p:=by
 have HE6:Hid (R=some (⟨.mk k ch ng rs lo hii lz ks,fs,true,true⟩,r6)):=ab gD;clear HE5 hfl;go_wp2_with (go_at_call 36;refine(iU _ HIX.out).mono ?_;rintro e w4 ⟨rfl,rfl⟩)
 refine xE (v:=.tuple #[.agg #[.int .i64 k,.string ⟨(ch).toArray⟩,.bool ng,.slice ra rs.length rc,.int .i64 lo,.int .i64 hii,.bool lz,.slice ka ks.length kc,.slice fa fs.length fcp,.bool true,.bool true],.int .i64 (j2+(m+1)),.bool true]) eQ rfl ⟨?_,?_⟩
 ·(repeat (first|with_reducible exact Below.refl _ _|with_reducible assumption|(refine Below.setCell ?_ eI _)|(refine Below.alloc ?_ eD _)|(refine Below.drew ?_)))
 ·rw [HE6.out]
  refine⟨_,j2+(m+1),rfl,?_,by omega,by omega,HDR.out⟩;have hT:TfV w3 (fun b=>w.heap.size<b∧b<w3.heap.size) (rxc k ch ng ra rs.length rc lo hii lz ka ks.length kc++[.slice fa fs.length fcp,.bool true,.bool true]) ⟨.mk k ch ng rs lo hii lz ks,fs,true,true⟩ :=
   ⟨_,fa,fcp,HXV3.out.mono fun b hb hlt=>by have h1:=HLT.out;have h2:wr.heap.size≤b:=hb;constructor<;>omega,HSL.out.mono fun b hb hlt=>by have h2:(w1.alloc _).heap.size≤b:=hb;simp only [xG] at h2;constructor<;>omega,rfl⟩
  exact dr):p:=h
theorem aJ {p:Prop} (h:p:=by
 rw [hres] at hq;obtain⟨hq8,rfl,r9,hrd9⟩:=hq;have HR2:Hid (Except.error q=R):=ab gF;have HR:=HR2;have hg8:=gG hg1 hq8;have HRD9:=ab hrd9;obtain⟨f0,f1,f2,f3,f4,f5,f6,f7,f8⟩:=gK (c:=[]) (gJ HBY1.out hq8 eu);clear hres hq8 hrd9;unfold rxv0;go_wp2
 refine xE (v:=.tuple #[.agg #[.int .i64 0,.string ⟨([]).toArray⟩,.bool false,.slice none 0 0,.int .i64 0,.int .i64 0,.bool false,.slice none 0 0],.int .i64 q]) eM rfl ?_;refine⟨?_,?_⟩
 ·iterate 8 (refine gO ?_ ex _)
  exact hg8
 ·rw [←HR.out]
  exact dv):p:=h
theorem aK {p:Prop} (h:p:=by
 iterate 8 (refine RxV.keep (Kept.setLow _ (fun b hb=>by have:w.heap.size≤b∧b≠w.heap.size:=hb;first|omega|(simp;done)|(simp;omega))) ?_)
 exact(RxV.close (SlS.none_ _ _ _ _) ⟨[],SlS.none_ _ _ _ _,.nil⟩)):p:=h
theorem aL {p:Prop} (h:p:=by
 have HR2:Hid (Except.error q=R):=ab (by rw [←HR.out];simp only [hpr]);have HR:=HR2;have hg5:=gG hgd hq5;have hby5:=gJ HBYD.out hq5 eu;have hb6:Below w5.heap.size w5 (w5.alloc (.cells #[.int .i64 0,.string ⟨#[]⟩,.bool false,.slice none 0 0,.int .i64 0,.int .i64 0,.bool false,.slice none 0 0] 25)):=(Below.refl _ _).alloc (wY _) _;have hrd6:=hrd9.later hb6;have c6:=hrd6.cell2;have hf6:=hrd6.free2;have HRD7:=ab (hrd6.setDeep (.int .i64 (d:Int)));have hg7:=gT (gG hg5 (gH hb6 (some g))) 2 (.int .i64 (d:Int));have ed:((d+1:Nat):Int)-1=d:=eu;have ne1:(q != 0)=true:=by simp [bne,hq0]
 obtain⟨f0,f1,f2,f3,f4,f5,f6,f7,f8⟩:=gK (c:=[]) (g7 ((hb6.block _ (gI hby5)).trans hby5) (a:=⟨g,2,none⟩) ex (.int .i64 (d:Int)));clear hpr hby5 hrd9 hrd6 hb6;unfold rxv0;go_wp2
 refine xE (v:=.tuple #[.agg #[.int .i64 0,.string ⟨([]).toArray⟩,.bool false,.slice none 0 0,.int .i64 0,.int .i64 0,.bool false,.slice none 0 0],.int .i64 q]) eT rfl ?_;refine⟨?_,?_⟩
 ·iterate 8 (refine gO ?_ ex _)
  exact hg7
 ·rw [←HR.out]
  refine⟨rfl,?_⟩;iterate 8 (refine RdE.setHi ?_ ex _)
  exact⟨_,HRD7.out⟩):p:=h
theorem aM {p:Prop} (h:p:=by
 have HF2:Hid (none=R0):=ab (by rw [←HF.out];simp only [iL,ht,hit]);have HR2:Hid (Except.error 10=R):=ab fA;have HR:=HR2;have HIT:=ab hit;clear HF ht hit hrd hown hrl hok;go_wp2_with (go_at_call 149;refine(g8 _ HRD.out HT.out eB).mono ?_)
 rintro e w3 ⟨rfl,hrd3,hq3⟩;have hgr3:=gG hg hq3;have HRD3:=ab hrd3;clear hrd3 hq3;go_wp2_with (go_at_call 170;refine(i7 _ HRD3.out).mono ?_)
 rintro e w4 hq;have hq4:=hq.1;have hqe:=hq.2;rw [HIT.out] at hqe;obtain⟨hqe',r9,hrd9⟩:e=.returned (.tuple #[.string ⟨#[]⟩,.slice none 0 0,.int .i64 10])∧∃r,Rd w4 g r d:=hqe;subst hqe';have HRD9:=ab hrd9;clear hrd9;have hgr4:=gG hgr3 hq4;have hgw4:=gG hg2 hgr4;obtain⟨f0,f1,f2,f3,f4,f5,f6,f7,f8⟩:=gK (c:=[]) (gJ HBY2.out hgr4 eu);clear hq hq4;go_wp2
 refine xE (v:=.tuple #[.agg #[.int .i64 0,.string ⟨([]).toArray⟩,.bool false,.slice none 0 0,.int .i64 0,.int .i64 0,.bool false,.slice none 0 0],.int .i64 10]) eJ rfl ?_;refine⟨?_,?_⟩
 ·iterate 8 (refine gO ?_ ex _)
  exact hgw4
 ·rw [←HR.out]
  exact dv):p:=h
theorem aN {p:Prop} (h:p:=by
 have HE:Hid (Q=(false,iC st)):=ab (HM.out.trans (wX (fun h=>by omega)));have f12:∀x:ExtOf w2,x.val.cell? ⟨R.r,12,none⟩=some (.slice R.ca R.C.cs.length R.cc):=ExtOf.cell c12;have hkn2:decide (k<R.C.cs.length)=false:=xK eu;go_upto_region 26 with fail
 clear p0 p1 p2 p3 p4 p5 p6 p7 p8 p9 p10 c12;refine gN eA eA ?_;repeat (go_big_quiet_step ((fail)))
 refine wpQuiet_nil ?_;rintro _ ⟨xq,rfl⟩;have hxe:=xq.ext;have hre:=HR2.out.later hxe;have HRE:=ab hre;have HXE:=ab (Fx.below (R:=R) hxe);clear hxe hre;go_wp2
 go_ret
 rw [HE.out];exact⟨rfl,HRE.out,(HB1.out.trans HX2.out).trans HXE.out⟩):p:=h
theorem aO {p:Prop} (h:p:=by
 iterate 9 (refine RxV.keep (Kept.setLow _ (fun b hb=>by have:B≤b∧b≠w.heap.size+1∧b≠w.heap.size+3:=hb;first|omega|(simp;done)|(simp;omega))) ?_)
 exact(RxV.close (SlS.none_ _ _ _ _) HKS3.out)):p:=h
theorem aP {p:Prop} (h:p:=by
 have:=HF.out
 have hje:j=i:=eu;subst hje;cases k with
 | zero=>exact this.symm
 | succ k=>simp only [bs] at this;rw [wX eu] at this;exact this.symm):p:=h
theorem aQ {p:Prop} (h:p:=by
 rw [hpr] at hq;obtain⟨hq5,rfl,r9,hrd9⟩:=hq;have hq0:q≠0:=kb _ _ _ q hpr;have HR2:Hid (Except.error q=R):=ab fH;have HR:=HR2;have hby5:=gJ HBY2.out hq5 eu;have hbl5:Below w.heap.size w w5:=s5 hbw2 hq5 eu;have hz5:=hbl5.size;have hb6:Below w5.heap.size w5 (w5.alloc (.cells #[.int .i64 0,.string ⟨#[]⟩,.bool false,.slice none 0 0,.int .i64 0,.int .i64 0,.bool false,.slice none 0 0] 25)):=(Below.refl _ _).alloc (wY _) _;have hbl6:=hbl5.trans (hb6.mono hz5);have ne1:(q==0)=false:=xH.2 hq0;have ne2:(q != 0)=true:=by simp [bne,ne1]
 obtain⟨f0,f1,f2,f3,f4,f5,f6,f7,f8⟩:=gK (c:=[]) ((hb6.block _ (gI hby5)).trans hby5);clear hpr hby5 hrd9 hb6 hq5;unfold rxv0;go_wp2
 refine xE (v:=.tuple #[.agg #[.int .i64 0,.string ⟨([]).toArray⟩,.bool false,.slice none 0 0,.int .i64 0,.int .i64 0,.bool false,.slice none 0 0],.int .i64 q]) eP rfl ?_;refine⟨?_,?_⟩
 ·iterate 8 (refine Below.setCell ?_ ex _)
  exact hbl6
 ·rw [←HR.out];rfl):p:=h
theorem aR {p:Prop} (h:p:=by
 go_ret
 exact⟨gX HR2.out.symm,((Below.refl _ _).alloc (wY _) _).trans (hb1.mono eB)⟩):p:=h
theorem aS {p:Prop} (h:p:=by
 have HR2:Hid (Except.error 10=R):=ab gp;have HR:=HR2;have HT:=ab ht;have HRD8:=HRD7;rw [hw6] at HRD8;have HW6:=ab hw6;clear hpr ht hw6;go_wp2_with (go_at_call 149;refine(g8 _ HRD8.out HT.out eB).mono ?_)
 rintro e w9 ⟨rfl,hrd9,hq9⟩;rw [←HW6.out] at hq9;have hg9:=gG hg7 hq9;have HRD9:=ab hrd9;obtain⟨f0,f1,f2,f3,f4,f5,f6,f7,f8⟩:=gK (c:=[]) (gJ HBY7.out hq9 eu);clear hrd9 hq9 c6 hf6;go_wp2
 refine xE (v:=.tuple #[.agg #[.int .i64 0,.string ⟨([]).toArray⟩,.bool false,.slice none 0 0,.int .i64 0,.int .i64 0,.bool false,.slice none 0 0],.int .i64 10]) eT rfl ?_;refine⟨?_,?_⟩
 ·iterate 8 (refine gO ?_ ex _)
  exact hg9
 ·rw [←HR.out]
  exact dv):p:=h
theorem aT {p:Prop} (h:p:=by
 go_enter Tryz.func185,Tryz.ntmps185
 go_wp2_with (go_at_call 195;refine(nr _ _ eu).mono ?_;rintro e w1 ⟨rfl,rfl⟩)
 go_ret
 exact⟨gX (by rw [HE.out];generalize (kind==10)=q;first|(cases q<;>rfl)|(generalize lO d=x;first|(cases q<;>cases x<;>rfl)|(generalize lO u=y;cases q<;>cases x<;>cases y<;>rfl))),rfl⟩):p:=h
theorem aU {p:Prop} (h:p:=by
 go_wp2
 have hxs1:=HXS.out.later hbl1;refine xE (v:=.tuple #[.agg #[.int .i64 k,.string ⟨(c).toArray⟩,.bool ng,.slice ra rs.length rc,.int .i64 lo,.int .i64 hi,.bool lz,.slice ka ks.length kc],.int .i64 0]) eF rfl ?_;refine⟨?_,?_⟩
 ·iterate 8 (refine gO ?_ ex _)
  exact hgw1
 rw [←HR.out];refine⟨rxc k c ng ra rs.length rc lo hi lz ka ks.length kc,rfl,RxV.mono (S:=fun b=>B≤b∧b≠w.heap.size+1∧b≠w.heap.size+3) (fun b hb _=>hb.1) ?_,?_⟩
 ·iterate 8 (refine RxV.keep (Kept.setLow _ (fun b hb=>by have:B≤b∧b≠w.heap.size+1∧b≠w.heap.size+3:=hb;first|omega|(simp;done)|(simp;omega))) ?_)
  exact hxs1
 ·iterate 8 (refine RdT.setHi ?_ ex _)
  exact HRD1.out):p:=h
theorem aV {p:Prop} (h:p:=by
 clear HR;go_enter Tryz.func82,Tryz.ntmps82
 go_wp2_with (go_at_call 117;refine(mA ⟨_,n,cse,thn,els⟩ _ _ _ _ _).mono ?_;rintro e w1 ⟨rfl,hb1⟩)
 go_ret
 exact⟨gX HS.out.symm,((Below.refl _ _).alloc (wY _) _).trans (hb1.mono eB)⟩):p:=h
theorem aW {p:Prop} (h:p:=by
 go_wp2_with (refine jr rfl 72 (.tmp 4) (.tmp 28) rfl (w.heap.size) (#[.int .i64 0,.int .i64 0,.slice none 0 0]) rfl rfl 72 _ (HX4.out) (iw) rfl rfl (eG) (W:=(w4.setRow w.heap.size #[.int .i64 0,.int .i64 0,.slice none 0 0])) (rfl) ?_)
 refine xE (pY Tryz.results122 ja iw HRES.out rfl rfl rfl) rfl ?_;rw [HE.out];exact⟨HJ4.out.gx (nf w4 w.heap.size _) (Nat.ne_of_lt hlr) (fun k hk e=>absurd (hlp k hk) eX) (fun b hb e=>absurd (HX.out.lt b hb) eL),HG4.out.to (nf w4 w.heap.size _) (fun b hb e=>absurd hb eL),rfl⟩):p:=h
theorem aX {p:Prop} (h:p:=by
 have HO:Hid (okB (.mk k c ng rs lo hi lz ks) left dp=false):=ab (by
  rw [sW,hG];rcases hld with h|h
  ·rw [xK (by omega:¬1≤left)];rfl
  ·simp;omega)
 clear hF;go_enter Tryz.func81,Tryz.ntmps81
 go_wp2_with (first|(go_at_call 115;refine(ma _ _).mono ?_;rintro e w1 ⟨rfl,rfl⟩;rw [hG])|(go_at_call 116;refine(mu _ HF.out HRS.out HX0.out HS1.out).mono ?_;rintro e w1 ⟨rfl,hb1,hc1⟩;have z1:=hc1 ⟨w.heap.size,7,none⟩ (.slice ka ks.length kc) eB))
 all_goals first
  | (exfalso;omega)
  | (go_ret2;refine⟨⟨left,by rw [HO.out];rfl,fun h=>by rw [HO.out] at h;cases h⟩,?_⟩;first|exact(Below.refl _ _).alloc (wY _) _|exact((Below.refl _ _).alloc (wY _) _).trans (hb1.mono eB))):p:=h
theorem aY {p:Prop} (h:p:=by
 refine gN eA eA ?_;repeat (go_big_quiet_step ((go_at_call 184;exact iy (HTX.out _))))
 refine wpQuiet_nil ?_;rintro _ ⟨xq,rfl⟩;have hxe:=xq.ext;have hre:=HR2.out.later hxe;have HRE:=ab hre;have HXE:=ab (Fx.below (R:=R) hxe);clear hxe hre;go_wp2
 go_ret
 rw [HE.out];exact⟨rfl,HRE.out,(HB1.out.trans HX2.out).trans HXE.out⟩):p:=h
theorem aZ {p:Prop} (h:p:=by
 have HF:=ab hF;have HO:Hid (okB (.mk k c ng rs lo hi lz ks) left dp=false):=ab (by rw [sW,hF];simp);clear hF;go_enter Tryz.func81,Tryz.ntmps81
 go_wp2_with (first|(go_at_call 115;refine(ma _ _).mono ?_;rintro e w1 ⟨rfl,rfl⟩;rw [hG])|(go_at_call 116;refine(mu _ HF.out HRS.out HX0.out HS1.out).mono ?_;rintro e w1 ⟨rfl,hb1,hc1⟩;have z1:=hc1 ⟨w.heap.size,7,none⟩ (.slice ka ks.length kc) eB))
 all_goals
  (go_ret2;refine⟨⟨left,by rw [HO.out];rfl,fun h=>by rw [HO.out] at h;cases h⟩,?_⟩;first|exact(Below.refl _ _).alloc (wY _) _|exact((Below.refl _ _).alloc (wY _) _).trans (hb1.mono eB))):p:=h
theorem ba {p:Prop} (h:p:=by
 unfold maxLen at *;obtain⟨L,hL⟩:∃L,jL fs 40=L:=⟨_,rfl⟩;rw [hL] at HFL g2;clear hL h2 hx hf hsz;go_enter Tryz.func9,Tryz.ntmps9
 go_wp2_with (first|(go_at_call 21;refine HFL.out.mono ?_;rintro e w1 ⟨rfl,hb1⟩)|(go_at_call 11;refine(n6 _).mono ?_;rintro e w9 ⟨rfl,hb9⟩))
 go_ret
 exact⟨rfl,bel2 hb1 hb9⟩):p:=h
theorem bc {p:Prop} (h:p:=by
 go_wp2_with (go_at_call 57;refine(iO w.heap.size _ acc _ _ eY eu fb gm).mono ?_;rintro e w2 ⟨rfl,hbl2,hfr2⟩)
 go_roundw
 case rel =>
  refine⟨k+1,acc++p,by omega,by go_num,hbl2,?_,ab ?_,ab ?_⟩
  ·exact dH
  ·exact dy
  ·exact dJ
 case measure=>simp [intOf];omega):p:=h
theorem bd {p:Prop} (h:p:=by
 obtain⟨t,rfl,rfl⟩:=hq;obtain⟨f0,f1,f2,f3,f4,f5,f6,f7,f8⟩:=gK (c:=[]) HBY1.out;go_wp2
 refine xE (v:=.tuple #[.agg #[.int .i64 0,.string ⟨([]).toArray⟩,.bool false,.slice none 0 0,.int .i64 0,.int .i64 0,.bool false,.slice none 0 0],.int .i64 10]) eH rfl ?_;refine⟨?_,?_⟩
 ·iterate 8 (refine gO ?_ ex _)
  exact hg1
 ·rw [←HR.out]
  exact dI):p:=h
theorem be {p:Prop} (h:p:=by
 go_region_law (refine nU w.heap.size 5 (w:=wr.drew) rfl rfl _ _ 67 rfl Tryz.underlying67 hiu rfl ez rfl k3 rfl fg rfl eG eu ez hB ?_;intro v1 w2 hown1 hg1 _ _;obtain⟨a1,c1,rfl,d1,d2,hrs1,hbl1⟩:=RS.text_app (w:=wr.drew) hrs k1 hown1 hg1 hB)
 all_goals
  go_wp2
  go_roundw
  case rel =>
   refine⟨j+1,tx++[c],fs,by omega,by omega,by go_num,hrs1,Below.trans hb.drew hbl1,by simp;omega,by omega,ab gl,HLO,ab ?_⟩;rw [Hr.out,←HE.out]
  case measure=>simp [intOf];omega):p:=h
theorem bf {p:Prop} (h:p:=by
 iterate 9 (refine RdT.setHi ?_ ex _)
 exact HRD3.out):p:=h
theorem bg {p:Prop} (h:p:=by
 iterate 9 (refine gO ?_ ex _)
 exact hgw3):p:=h
theorem bh {p:Prop} (h:p:=by
 exact⟨a,m,b,by first|rfl|go_num|(simp;omega),by first|rfl|go_num|(simp;omega),by omega,by omega,by omega,by omega,HRO.out,il _ _,HT⟩):p:=h
theorem bi {p:Prop} (h:p:=by
 subst hij2;clear HF hk hi hj;go_wp2_with (go_at_call 150;refine(HC1.out _ hro).mono ?_)
 first|rintro e w6 rfl hr6 hh6|rintro e w6 ⟨rfl,hr6,hh6⟩
 have hg6:=gG hg hh6;clear hh6;go_wp2_with (go_at_call 114;refine(HC2.out _ hr6).mono ?_)
 first|rintro e w7 rfl hr7 hh7|rintro e w7 ⟨rfl,hr7,hh7⟩
 have hg7:=gG hg6 hh7;clear hh7;go_wp2_with (go_at_call 114;refine(HC3.out _ hr7).mono ?_)
 first|rintro e w8 rfl hr8 hh8|rintro e w8 ⟨rfl,hr8,hh8⟩
 have hg8:=gG hg7 hh8;clear hh8;go_wp2
 go_end0
 exact⟨rfl,hr8,hg8⟩):p:=h
theorem bj {p:Prop} (h:p:=by
 clear hd HS hr c47 c92;go_wp2_with (at_builtin;refine iK w.heap.size 5 rfl _ _ 67 rfl Tryz.underlying67 hiu rfl ez rfl hown rfl fg rfl eG eu ez hB ?_;intro v1 w1 hown1 hg1 hb1 hne1)
 go_roundw
 case rel =>
  refine⟨(j+1),(a++[c]),by omega,by omega,by go_num,?_,?_,hb.trans hb1,by simp;omega,HS2⟩
  ·simpa [iE] using hown1
  ·exact ei
 case measure=>simp [intOf];omega):p:=h
theorem bk {p:Prop} (h:p:=by
 unfold Oper.wp at *;generalize (execOp a.eval o).run P w=r at *
 cases r with
 | ok n w' =>
  cases n<;>simp only [Oper.upon] at h ⊢<;>first|exact h|exact h.mono (fun e w'' he=>by cases e<;>exact he)
 | halt x w'=>cases x<;>simp only [Oper.upon] at h ⊢<;>exact h):p:=h
theorem bl {p:Prop} (h:p:=by
 intro hk;have h1:=ih eu;obtain⟨ok,hok⟩:∃ok,ops[t-k]?=some ok:=⟨_,wW eu⟩;have h2:=pH hch (t:=t-k) eu (by simpa using hok) (hclo _ ok (by simpa using hok) h1);rw [show t-(k+1)=t-k-1 by omega];exact h2):p:=h
theorem bm {p:Prop} (h:p:=by
 generalize hx:l[k]=x at *
 have Hx:=ab hx;clear hx;go_wp2_with (fail)
 go_roundw
 case rel=>exact⟨k+1,by omega,by go_num,HR.out,hb,hlt⟩
 case measure=>simp [intOf];omega):p:=h
theorem bn {p:Prop} (h:p:=by
 go_wp2_with (go_at_call 185;refine HS.out.mono ?_)
 first|rintro x w' rfl rfl|rintro x w' ⟨rfl,rfl⟩
 go_wp2
 go_ret
 rw [HE.out];exact⟨rfl,HR2.out,HB1.out.trans HX2.out⟩):p:=h
theorem bq {p:Prop} (h:p:=by
 refine⟨rxc yk yc yn ya yr.length yrc yl yh yz yka ys.length ykc,rfl,RxV.mono (S:=fun b=>w.heap.size+1≤b) (fun b hb _=>by have:w.heap.size+1≤b:=hb;show w.heap.size≤b;omega) (RxV.close ?_ ?_),?_⟩
 ·iterate 8 (refine SlS.keep ?_ (Kept.setLow _ (fun b hb=>by have:w.heap.size+1≤b:=hb;simp;omega)))
  exact HYR.out
 ·iterate 8 (refine RxSl.keep ?_ (Kept.setLow _ (fun b hb=>by have:w.heap.size+1≤b:=hb;simp;omega)))
  exact HYX.out
 ·iterate 8 (refine Below.setCell ?_ eB _)
  exact hbw1):p:=h
theorem br {p:Prop} (h:p:=by
 go_ret
 exact⟨gX HR2.out.symm,(((Below.refl _ _).alloc (wY _) _).trans (hb1.mono eB)).trans ((((Below.refl w1.heap.size w1).alloc (wY _) _).trans (hb2.mono eB)).mono gj)⟩):p:=h
theorem bu {p:Prop} (h:p:=by
 iterate 8 (refine RxV.keep (Kept.setLow _ (fun b hb=>by have:w.heap.size≤b∧b≠w.heap.size:=hb;first|omega|(simp;done)|(simp;omega))) ?_)
 exact HV.out):p:=h
theorem bv {p:Prop} (h:p:=by
 exact⟨LO,M,b,by first|rfl|go_num|(simp;omega),by first|rfl|go_num|(simp;omega),by omega,by omega,by omega,by omega,HRO.out,il _ _,HT⟩):p:=h
theorem bw {p:Prop} (h:p:=by
 go_wp2_with (refine jr rfl 72 (.tmp 4) (.tmp 32) rfl (w.heap.size) (#[.int .i64 0,.int .i64 0,.slice none 0 0]) rfl rfl 72 _ (HXB.out) (iw) rfl rfl (eG) (W:=(wr.setRow w.heap.size #[.int .i64 0,.int .i64 0,.slice none 0 0])) (rfl) ?_)
 refine xE (pY Tryz.results84 ja iw HRE.out rfl rfl rfl) rfl ?_;rw [←HE.out];exact⟨HJE.out,HGE.out,rfl⟩):p:=h
theorem bx {p:Prop} (h:p:=by
 refine⟨?_,?_⟩
 ·rw [xx eC];simpa [show (k+1)*2-2=k*2 by omega] using h1
 ·rw [xx eC];simpa [show (k+1)*2+1-2=k*2+1 by omega] using h2):p:=h
theorem bA {p:Prop} (h:p:=by
 iterate 8 (refine gO ?_ ex _)
 exact hg2):p:=h
theorem bB {p:Prop} (h:p:=by
 first|rintro x w' rfl hr hx|rintro x w' ⟨rfl,hr,hx⟩
 go_wp2
 go_ret
 rw [HE.out];exact⟨rfl,hr,(HB1.out.trans HX2.out).trans hx⟩):p:=h
theorem bC {p:Prop} (h:p:=by
 have hl3:0≤l':=by omega
 have hl4:l'≤100000:=eu;have HE4:Hid (l'-Rx.partsL r=tot):=ab (by rw [hl2];exact HE2.out);clear hl' hl2;go_wp2
 go_roundw
 case rel=>exact⟨i+1,l',by omega,by go_num,rfl,hl3,hl4,(hb.alloc hB _).trans (hb2.mono eC),ab (by rw [Hr.out];exact HE3.out),ab (by rw [Hr.out];exact HE4.out)⟩
 case measure=>simp [intOf];omega):p:=h
theorem bD {p:Prop} (h:p:=by
 show Calls Tryz.prog 199 #[.int .i64 (e:Int),.pointer (some ⟨b3,0,none⟩),.pointer (some ⟨b4,0,none⟩),.pointer (some ⟨b2,0,none⟩),.pointer (some ⟨b1,0,none⟩),.pointer (some ⟨b5,0,none⟩)] w _
 go_enter Tryz.func199,Tryz.ntmps199
 go_wp2_with (go_at_call 181;refine HC.out.mono ?_)
 rintro x w' ⟨rfl,hr,hx⟩;go_wp2
 go_ret
 exact⟨rfl,hr,hx⟩):p:=h
theorem bE {p:Prop} (h:p:=by
 iterate 8 (refine SlS.keep ?_ (Kept.setLow _ (fun b hb=>by have:w.heap.size+1≤b:=hb;simp;omega)))
 exact SlS.none_ _ _ _ _):p:=h
theorem bF {p:Prop} (h:p:=by
 iterate 8 (refine RdT.setHi ?_ ex _)
 exact HRD3.out):p:=h
theorem bG {p:Prop} (h:p:=by
 iterate 8 (refine gO ?_ ex _)
 exact hg3):p:=h
theorem bH {p:Prop} (h:p:=by
 have h2:ks.length≤i:=fr;have HE:Hid (R=true):=ab (by rw [←HL.out,hd,okL_nil hl0 hd0]);have HE2:Hid (l=tot):=ab (by rw [←HTL.out,hd];simp [Rx.partsL]);clear hd HL HTL;go_wp2
 go_ret2
 exact⟨⟨l,by rw [HOR.out,HE.out];rfl,fun _=>by rw [HE2.out,←HTT.out]⟩,hbw1.trans (hb.mono hz1)⟩):p:=h
theorem bI {p:Prop} (h:p:=by
 refine wpQuiet_nil ?_;rintro _ ⟨xq,rfl⟩;go_wp2
 go_ret
 exact⟨rfl,HB0.out.trans (xq.ext.mono eB)⟩):p:=h
theorem bJ {p:Prop} (h:p:=by
 go_enter Tryz.func49,Tryz.ntmps49
 go_wp2_with (go_at_call 80;refine(vd _ _).mono ?_;rintro e w1 ⟨rfl,rfl⟩)
 go_ret
 exact⟨ke HE.out.symm,rfl⟩):p:=h
theorem bK {p:Prop} (h:p:=by
 go_enter Tryz.func172,Tryz.ntmps172
 go_wp2
 go_ret2
 exact⟨rfl,rfl⟩):p:=h
theorem bL {p:Prop} (h:p:=by
 first|rintro x w' rfl hr hx|rintro x w' ⟨rfl,hr,hx⟩
 go_wp2
 go_ret
 rw [HE.out];exact⟨rfl,hr,(HB1.out.trans HX2.out).trans (HXE.out.trans hx)⟩):p:=h
theorem bM {p:Prop} (h:p:=by
 clear hB;go_enter Tryz.func82,Tryz.ntmps82
 go_wp2_with (go_at_call 117;refine(mA ⟨_,n,cse,thn,els⟩ _ _ _ _ _).mono ?_;rintro e w1 ⟨rfl,hb1⟩)
 go_ret
 refine⟨gX ?_,((Below.refl _ _).alloc (wY _) _).trans (hb1.mono eB)⟩;rw [HS.out,hB'];simp):p:=h
theorem bN {p:Prop} (h:p:=by
 have hkl:k=l.length:=eu;subst hkl;have hcv2:=hr.back (P:=Tryz.prog) (src:=67) (dst:=9) Tryz.underlying67 Tryz.underlying5 Tryz.underlying9 cap;simp only [List.take_length,List.drop_length,xW,xS] at hcv2;go_wp2
 go_ret2
 exact⟨rfl,hb⟩):p:=h
theorem bO {p:Prop} (h:p:=by
 have hkl:k=l.length:=eu;subst hkl;have hcv2:=hr.back (P:=Tryz.prog) (src:=67) (dst:=9) Tryz.underlying67 Tryz.underlying5 Tryz.underlying9 cap;simp only [List.take_length,List.drop_length,xW,xS] at hcv2;go_wp2
 go_ret
 exact⟨rfl,hb⟩):p:=h
theorem bP {p:Prop} (h:p:=by
 iterate 8 (refine RdT.setHi ?_ ex _)
 exact HRD2.out):p:=h
theorem bQ {p:Prop} (h:p:=by
 go_wp2_with (go_at_call 43;refine HS.out.mono ?_)
 rintro e w1 ⟨rfl,hst⟩;obtain⟨i,hi,c1,hf,hr⟩:=(hst.rd HR.out).step;have HR1:=ab hr;clear hr;unfold hdS;go_wp2
 go_ret
 exact⟨rfl,HR1.out,r8 hst (gT (il _ _) _ _)⟩):p:=h
theorem bR {p:Prop} (h:p:=by
 split at h
 ·rename_i heq
  have:=kv _ _ _ heq
  exact dX
 ·cases h):p:=h
theorem bS {p:Prop} (h:p:=by
 go_roundw
 case rel =>
  refine⟨j+1,tx++[c],by omega,by omega,by go_num,?_,hb.trans hb1,by simp;omega,by simp;omega,?_⟩
  ·simpa [iE] using hown1
  ·exact ab (by rw [Hr.out,←HS.out];exact HF'.out)
 case measure=>simp [intOf];omega):p:=h
theorem bT {p:Prop} (h:p:=by
 clear ho1 hg1 hmv;go_wp2
 go_roundw
 case rel=>exact⟨i+1,by omega,by go_num,hb4',hox4⟩
 case measure=>simp [intOf];omega):p:=h
theorem bU {p:Prop} (h:p:=by
 subst hij2;clear HF hk hi hj;go_wp2_with (go_at_call 150;refine(HC1.out _ hro).mono ?_)
 first|rintro e w6 rfl hr6 hh6|rintro e w6 ⟨rfl,hr6,hh6⟩
 have hg6:=gG hg hh6;clear hh6;go_wp2
 go_end0
 exact⟨rfl,hr6,hg6⟩):p:=h
theorem bV {p:Prop} (h:p:=by
 iterate 8 (refine RxSl.keep ?_ (Kept.setLow _ (fun b hb=>by have:w.heap.size+1≤b:=hb;simp;omega)))
 exact HX1.out):p:=h
theorem bW {p:Prop} (h:p:=by
 go_ret
 exact⟨gX HR2.out.symm,((((below_drewN ((Below.refl w.heap.size w).alloc (wY _) _) _).setCell eB _).setCell eB _).setCell eB _).trans (hb1.mono gC)⟩):p:=h
theorem bX {p:Prop} (h:p:=by
 rw [show k+1-1=k from rfl,HK.out] at hg;injection hg with hg;subst hg;first|rfl|(simp;done)|(simp [HK0.out];done)):p:=h
theorem bY {p:Prop} (h:p:=by
 go_enter Tryz.func45,Tryz.ntmps45
 go_wp2_with (go_at_call 22;refine(jI _ _ eu).mono ?_;rintro e w1 ⟨rfl,rfl⟩)
 go_ret
 exact⟨gX HE.out.symm,(Below.refl _ _).alloc (wY _) _⟩):p:=h
theorem bZ {p:Prop} (h:p:=by
 rintro e w1 ⟨rfl,hrd1,hq1⟩;have hg1:=gG hg0 hq1;have HRD1:=ab hrd1;have hz1:=hq1.size;clear hrd1 hq1;go_wp2
 go_ret3
 exact⟨hg1,by rw [←HR.out];exact⟨rfl,_,HRD1.out⟩⟩):p:=h
theorem b8 {p:Prop} (h:p:=by
 rcases Nat.lt_or_ge i l.length with h1|h1
 ·exact h1
 ·rw [List.drop_of_length_le h1] at h;cases h):p:=h
theorem cd {p:Prop} (h:p:=by
 have:=heap_alloc_new (w.alloc (.cells (rxc kd ch ng ra rs.length rc lo hi lz ka ks.length kc).toArray 25)) (.cells #[.int .i64 0,.int .i64 0,.slice none 0 0] 72)
 rw [hW1];simpa using this):p:=h
theorem ce {p:Prop} (h:p:=by
 go_roundw
 case rel=>exact⟨k+1,by omega,by go_num,HS'.out,hb.setCell (p:=⟨w.heap.size,k,none⟩) (wY _) _,by simp [World.setCell];omega⟩
 case measure=>simp [intOf];omega):p:=h
theorem cf {p:Prop} (h:p:=by
 intro v1 w1 ho1 hg1 hb1 _;obtain⟨a1,c1,rfl⟩:=gY ho1;go_wp2
 go_ret
 refine⟨a1,c1,by simp,by simpa using py ho1,((Below.refl _ _).alloc (wY _) _).trans hb1⟩):p:=h
theorem cg {p:Prop} (h:p:=by
 have HE3:Hid (R=false):=ab (by rw [HE.out,hok];rfl);clear hl';go_wp2
 go_ret2
 exact⟨⟨_,by rw [HOR.out,HE3.out];rfl,fun h=>by rw [HOR.out,HE3.out] at h;cases h⟩,hbw2⟩):p:=h
theorem cj {p:Prop} (h:p:=by
 go_enter Tryz.func58,Tryz.ntmps58
 go_wp2_with (go_at_call 90;refine(tM _ _ _ hs).mono ?_;rintro e w1 ⟨rfl,hb1⟩)
 go_ret2
 exact⟨rfl,hb0.trans (hb1.mono hb0.size)⟩):p:=h
theorem ck {p:Prop} (h:p:=by
 rw [xe hj.box];unfold Rn.cells;simp only [List.getElem?_toArray];rw [xx (by rw [hB.j.tp];omega),hB.j.tp,Nat.add_sub_cancel_left];exact hu):p:=h
theorem cl {p:Prop} (h:p:=by
 iterate 9 (refine RxV.keep (Kept.setLow _ (fun b hb=>by have:w.heap.size≤b∧b≠w.heap.size∧b≠w1.heap.size:=hb;first|omega|(simp;done)|(simp;omega))) ?_)
 exact HUS.out):p:=h
theorem cm {p:Prop} (h:p:=by
 obtain⟨va,vc,rfl⟩:=gY hown;have HOWN:=ab hown;clear hd HF hown;go_wp2
 go_ret
 exact⟨va,vc,by rw [HE.out];rfl,by rw [←HE.out];exact py HOWN.out,hb⟩):p:=h
theorem cn {p:Prop} (h:p:=by
 go_wp2
 go_ret
 exact⟨rfl,rfl⟩):p:=h
theorem cq {p:Prop} (h:p:=by
 exact⟨0,by omega,rfl,by simpa using hrow,hb0,by omega⟩):p:=h
theorem cr {p:Prop} (h:p:=by
 rw [xe h];rfl):p:=h
theorem cu {p:Prop} (h:p:=by
 rw [srt_app];refine⟨h1,List.pairwise_cons.2 ⟨k2,h2⟩,fun y hy z hz=>?_⟩;rcases xo.1 hz with rfl|hz
 ·exact k1 y hy
 ·exact h3 y hy z hz):p:=h
theorem cw {p:Prop} (h:p:=by
 have:=h.cells (g:=g) rfl j u hu
 have hadd:(⟨g,0,none⟩:Addr).add j=⟨g,0+j,none⟩:=by unfold Addr.add;split<;>simp_all
 rw [hadd] at this;exact this):p:=h
theorem cx {p:Prop} (h:p:=by
 have:=HF.out
 have hje:j=i:=eu;subst hje;cases k with
 | zero=>exact this
 | succ k=>simp only [bs] at this;rw [wX eu] at this;exact this):p:=h
theorem cz {p:Prop} (h:p:=by
 clear HG;go_wp2
 refine xE (v:=.tuple #[]) (results_none rfl _ _ _) rfl ?_;exact⟨rfl,by rw [←HE.out];exact hrol,gG hg hgl⟩):p:=h
theorem cA {p:Prop} (h:p:=by
 obtain⟨css,h1,_⟩:=h;rcases h1.2 with⟨rfl,h0⟩|⟨b,cap,cur,rfl,_,_,hn,_⟩
 ·exact⟨none,0,by rw [h0],by omega⟩
 ·exact⟨_,_,rfl,hn⟩):p:=h
theorem cB {p:Prop} (h:p:=by
 rintro x w' ⟨rfl,hr,hx⟩;go_wp2
 go_ret
 exact⟨rfl,hr,HB1.out.trans hx⟩):p:=h
theorem cC {p:Prop} (h:p:=by
 have e2:(pre++[v]).length=pre.length+1:=eB;rw [e2] at h2;have e3:pre++[v]++(vs++post)=pre++(v::vs++post):=eB;rw [e3] at h2;exact h2):p:=h
theorem cD {p:Prop} (h:p:=by
 go_wp2
 go_ret
 rw [←HQ4.out];exact⟨rfl,HR4.out,HX5.out.trans HX4.out⟩):p:=h
theorem cE {p:Prop} (h:p:=by
 intro h;rw [List.flatten_cons,xm,ih (fun x hx=>h x (xw _ hx)),h c (xt ..)];simp;omega):p:=h
theorem cF {p:Prop} (h:p:=by
 rw [←HR.out];refine⟨rfl,?_⟩;iterate 8 (refine RdE.setHi ?_ ex _)
 exact⟨_,HRD2.out⟩):p:=h
theorem cG {p:Prop} (h:p:=by
 go_wp2
 all_goals
  go_ret
  refine⟨?_,rfl⟩;simp;rw [HR.out];first|(rw [wU eu];omega)|(rw [wX eu];omega)):p:=h
theorem cH {p:Prop} (h:p:=by
 go_wp2_with (go_at_call 158;refine HC.out.mono ?_)
 rintro x w' ⟨rfl,hr,hx⟩;go_wp2
 go_ret
 exact⟨rfl,hr,HB.out.trans hx⟩):p:=h
theorem cI {p:Prop} (h:p:=by
 clear ho4 hg4 hmv;go_wp2
 go_roundw
 case rel=>exact⟨i+1,by omega,by go_num,hb4',ho5,hs4⟩
 case measure=>simp [intOf];omega):p:=h
theorem cJ {p:Prop} (h:p:=by
 have e3:=lV e1;have e4:=lV e2;simp only [execOp,ho];go_simp):p:=h
theorem cK {p:Prop} (h:p:=by
 go_enter Tryz.func59,Tryz.ntmps59
 go_wp2
 go_region
 all_goals (go_wp2;go_ret;exact⟨rfl,Below.drew (Below.refl B w)⟩)):p:=h
theorem cL {p:Prop} (h:p:=by
 exact lq ez):p:=h
theorem cM {p:Prop} (h:p:=by
 rcases hmv with h|h
 ·exact hb.1.2 (h▸e)
 ·have:=h b e;omega):p:=h
theorem cN {p:Prop} (h:p:=by
 exact((hb.alloc hB _).trans (hb1.mono eC)).trans (hfr2.below eu (by simp;have:=hbl.le;omega))):p:=h
theorem cO {p:Prop} (h:p:=by
 refine(si l i w h0 eu eu).mono ?_
 rintro e w1 ⟨hw,hp⟩;rw [hN] at hp;exact⟨hw,hp⟩):p:=h
theorem cP {p:Prop} (h:p:=by
 split at h
 ·injection h with h;injection h with _ h;subst h;exact⟨wY _,fun e=>by omega⟩
 ·cases h):p:=h
theorem cQ {p:Prop} (h:p:=by
 injection h with h;injection h with h3 h;injection h with h4 h5
 subst h5;exact kG (xY _ _)):p:=h
theorem cR {p:Prop} (h:p:=by
 obtain⟨rfl,rfl⟩:=hrel;go_wp2
 go_end0
 exact⟨rfl,rfl⟩):p:=h
theorem cS {p:Prop} (h:p:=by
 rename_i y hy
 rw [hy] at f1 f2 f3;simp only [Rx.partsL,Rx.groupsL] at f2 f3;exact⟨f1.1,by omega,by omega⟩):p:=h
theorem cT {p:Prop} (h:p:=by
 rw [pj] at hn;split at hn
 ·rename_i q;injection hn with hn;exact⟨b,rfl,q,hn.symm⟩
 ·cases hn):p:=h
theorem cU {p:Prop} (h:p:=by
 simp only [anyK,List.any_cons,List.all_cons,Bool.not_or] at *;rw [ih];congr 1;rw [Bool.eq_iff_iff];simp):p:=h
theorem cV {p:Prop} (h:p:=by
 obtain⟨t,rfl,rfl⟩:=hq;go_wp2
 go_ret3
 exact⟨hg2,by rw [←HR.out];exact⟨rfl,_,HRD2.out⟩⟩):p:=h
theorem cW {p:Prop} (h:p:=by
 go_wp2
 go_ret
 exact⟨gX HE.out.symm,(hb.alloc hB _).trans (xq.ext.mono eC)⟩):p:=h
theorem cX {p:Prop} (h:p:=by
 simp only [asAddr,Sem.run_pure,Result.andThen];rw [run_loadVar_row w b t ty cs f _ h hu rfl hi]):p:=h
theorem cY {p:Prop} (h:p:=by
 exact⟨[],r0,World.ownsRow_nil _ _ _ _,HRD2.out,il _ _,by simp,by omega,by simp,HR0⟩):p:=h
theorem cZ {p:Prop} (h:p:=by
 refine(tZ l i n w h1 hs).mono ?_
 rintro e w1 ⟨hb,hp⟩;rw [hB] at hp;exact⟨hb,hp⟩):p:=h
theorem da {p:Prop} (h:p:=by
 split at h
 ·injection h with h;injection h with _ h;subst h;exact xZ _
 ·cases h):p:=h
theorem db {p:Prop} (h:p:=by
 go_wp2
 go_roundw
 case rel=>exact⟨rfl,.inr (.inl ⟨rfl,rfl⟩)⟩
 case measure=>simp [intOf]):p:=h
theorem dd {p:Prop} (h:p:=by
 rw [xe this];rfl):p:=h
theorem de {p:Prop} (h:p:=by
 rintro x w' ⟨rfl,hr,hx⟩;go_wp2
 go_ret
 exact⟨rfl,hr,(HB1.out.trans HX2.out).trans hx⟩):p:=h
theorem df {p:Prop} (h:p:=by
 go_ret
 exact⟨rfl,((Below.refl _ _).alloc (wY _) _).trans (hb1.mono eB)⟩):p:=h
theorem dg {p:Prop} (h:p:=by
 iterate 9 (refine RdT.setHi ?_ ex _)
 exact HRD4.out):p:=h
theorem dh {p:Prop} (h:p:=by
 iterate 9 (refine gO ?_ ex _)
 exact hgw4):p:=h
theorem di {p:Prop} (h:p:=by
 simp only [partsL];rcases xo.1 h with rfl|h
 ·omega
 ·have:=parts_mem h;omega):p:=h
theorem dj {p:Prop} (h:p:=by
 have hk0:k=0:=eu;subst hk0;have:=Hm.out
 rw [wX h0k];unfold pG;simp;omega):p:=h
theorem dk {p:Prop} (h:p:=by
 rw [pj] at hn;cases hb:j7 b with
 | true=>rw [hb] at hn;cases hn
 | false=>rfl):p:=h
theorem dl {p:Prop} (h:p:=by
 exact⟨0,by omega,rfl,Below.refl _ _,by rw [List.take_zero];exact OwnX.nil _ _⟩):p:=h
theorem dm {p:Prop} (h:p:=by
 obtain⟨x,r3⟩:=y;rw [hat] at hq;obtain⟨hq2,cc,rfl,hxv,hrd2⟩:=hq;have HR2:Hid (jG x r3=R):=ab fY;have HR:=HR2;have hg2:=gG hg1 hq2;have hby2:=gJ HBY1.out hq2 eu;have hz2:=hq2.size;obtain⟨k,c,ng,rs,lo,hi,lz,ks⟩:=x;have hxv0:=hxv;obtain⟨ra,rc,ka,kc,rfl,hrs,hks⟩:=hxv.open_;have hb6:Below w2.heap.size w2 (w2.alloc (.cells #[.int .i64 k,.string ⟨(c).toArray⟩,.bool ng,.slice ra rs.length rc,.int .i64 lo,.int .i64 hi,.bool lz,.slice ka ks.length kc] 25)):=(Below.refl _ _).alloc (wY _) _;have HRD6:=ab (hrd2.later hb6);have hg6:=gG hg2 (gH hb6 (some g));have HBY6:=ab ((hb6.block _ (gI hby2)).trans hby2);have hxv6:RxV _ (fun b=>w.heap.size+1≤b) _ _:=(hxv0.mono (S':=fun b=>w.heap.size+1≤b) fun b hb _=>by have:=hz1;omega).later hb6;have hz6:w.heap.size+1≤(w2.alloc (.cells #[.int .i64 k,.string ⟨(c).toArray⟩,.bool ng,.slice ra rs.length rc,.int .i64 lo,.int .i64 hi,.bool lz,.slice ka ks.length kc] 25)).heap.size:=by simp;have:=hz1;omega
 exact aj):p:=h
theorem dn {p:Prop} (h:p:=by
 obtain⟨x,r3⟩:=y;rw [hat] at hq;obtain⟨hq2,cc,rfl,hxv,hrd2⟩:=hq;have HR2:Hid (jG x r3=R):=ab fY;have HR:=HR2;have hg2:=gG hg2 hq2;have hby2:=gJ HBY2.out hq2 eu;have hz2:=hq2.size;obtain⟨k,c,ng,rs,lo,hi,lz,ks⟩:=x;have hxv0:=hxv;obtain⟨ra,rc,ka,kc,rfl,hrs,hks⟩:=hxv.open_;have hb6:Below w2.heap.size w2 (w2.alloc (.cells #[.int .i64 k,.string ⟨(c).toArray⟩,.bool ng,.slice ra rs.length rc,.int .i64 lo,.int .i64 hi,.bool lz,.slice ka ks.length kc] 25)):=(Below.refl _ _).alloc (wY _) _;have HRD6:=ab (hrd2.later hb6);have hg6:=gG hg2 (gH hb6 (some g));have HBY6:=ab ((hb6.block _ (gI hby2)).trans hby2);have hxv6:RxV _ (fun b=>w.heap.size+1≤b) _ _:=(hxv0.mono (S':=fun b=>w.heap.size+1≤b) fun b hb _=>by have:=hz2;omega).later hb6;have hz6:w.heap.size+1≤(w2.alloc (.cells #[.int .i64 k,.string ⟨(c).toArray⟩,.bool ng,.slice ra rs.length rc,.int .i64 lo,.int .i64 hi,.bool lz,.slice ka ks.length kc] 25)).heap.size:=by simp;have:=hz2;omega
 exact aj):p:=h
theorem dq {p:Prop} (h:p:=by
 have HT:=ab ht;cases hit:mq r with
 | none =>
  exact aM
 | some y =>
  obtain⟨c,nm,r1⟩:=y;obtain⟨i1,i2,i3,i4,i5⟩:=lK hit hok;have HIT:=ab hit;have HI4:=ab i4;have HRL:=ab hrl;have HOWN:=ab hown;clear i4 hrl hown;by_cases hnm:nm=[]
  ·subst hnm
   cases ht2:io [45] r1 with
   | none =>
    exact ap
   | some r2 =>
    have er1:=jd ht2;subst er1;cases r2 with
    | nil =>
     exact ar
    | cons c3 r3 =>
     by_cases h93:c3=[93]
     ·exact ak
     ·have ht3:io [93] (c3::r3)=none:=by rw [io,wX h93]
      have g93:(c3==[93])=false:=xH.2 h93;have g93':(c3 != [93])=true:=by simp [bne,g93]
      cases hit2:mq (c3::r3) with
      | none =>
       exact am
      | some y =>
       obtain⟨t,nm2,r4⟩:=y;obtain⟨j1,j2,j3,j4,j5⟩:=lK hit2 i5.tail;have HIT2:=ab hit2;clear j4;by_cases hnm2:nm2=[]
       ·exact ah
       ·exact an
  ·exact aH):p:=h
theorem dr {p:Prop} (h:p:=by
 refine TfV.mono (S:=fun b=>w.heap.size<b∧b<w3.heap.size) (fun b hb _=>by have h:w.heap.size<b∧b<w3.heap.size:=hb;omega) ?_;iterate 11 (refine TfV.keep (Kept.setLow _ (fun b hb=>by have h:w.heap.size<b∧b<w3.heap.size:=hb;simp;omega)) ?_)
 exact hT.keep (Kept.all ((Below.refl _ _).alloc (wY _) _))):p:=h
theorem dt {p:Prop} (h:p:=by
 refine xE (v:=.tuple #[.agg #[.int .i64 0,.int .i64 0,.int .i64 0,.string ⟨#[]⟩,.string ⟨#[]⟩],.int .i64 0,.bool false]) eO rfl ⟨?_,by rw [HE'.out];rfl⟩
 (repeat (first|with_reducible exact Below.refl _ _|with_reducible assumption|(refine Below.setCell ?_ eI _)|(refine Below.alloc ?_ eD _)|(refine Below.drew ?_)))):p:=h
theorem du {p:Prop} (h:p:=by
 go_wp2_with (go_at_call 20;refine HRD.out.mono ?_)
 rintro e w1 ⟨hb1,rfl⟩;have hb1w:Below w.heap.size w w1:=hb.trans (hb1.mono hB);have hB1:=hb1w.size;have hby1:=(hb1.block _ (gI HBY.out)).trans HBY.out;have z0:=fun o=>gL (gS hby1 o) 0 rfl
 have z1:=fun o=>gL (gS hby1 o) 1 rfl
 have z2:=fun o=>gL (gS hby1 o) 2 rfl
 have z3:=fun o=>gL (gS hby1 o) 3 rfl
 have z4:=fun o=>gL (gS hby1 o) 4 rfl
 have z5:=fun o=>gL (gS hby1 o) 5 rfl
 have z6:=fun o=>gL (gS hby1 o) 6 rfl
 have z7:=fun o=>gL (gS hby1 o) 7 rfl
 have z8:=fun o=>gL (gS hby1 o) 8 rfl
 have z9:=fun o=>gL (gS hby1 o) 9 rfl
 have z10:=fun o=>gL (gS hby1 o) 10 rfl
 have zf:=fun o=>lD (gS hby1 o)
 clear hby1 hby;unfold rxv0;go_wp2
 exact ay):p:=h
theorem dv {p:Prop} (h:p:=by
 refine⟨rfl,?_⟩;iterate 8 (refine RdE.setHi ?_ ex _)
 exact⟨_,HRD9.out⟩):p:=h
theorem dx {p:Prop} (h:p:=by
 have HR2:Hid (R=false):=ab fh;go_enter Tryz.func116,Tryz.ntmps116
 go_wp2_with (go_at_call 151;refine(jD _ HB.out).mono ?_;rintro e w1 ⟨rfl,hb1,hc1⟩;have hq7:=hc1 ⟨w.heap.size,7,none⟩ (.slice ka (ks.length+1) kc) eB)
 exact aR):p:=h
theorem dy {p:Prop} (h:p:=by
 have:=HL.out;rw [xm];have hp:=HPL.out;rw [HPV.out] at hp;rw [Nat.succ_mul];omega):p:=h
theorem dz {p:Prop} (h:p:=by
 have z0:=gL hby0 0 rfl;have z1:=gL hby0 1 rfl;have z2:=gL hby0 2 rfl;have z3:=gL hby0 3 rfl;have z4:=gL hby0 4 rfl;have z5:=gL hby0 5 rfl;have z6:=gL hby0 6 rfl;have z7:=gL hby0 7 rfl;have z8:=gL hby0 8 rfl;have z9:=gL hby0 9 rfl;have z10:=gL hby0 10 rfl;have zf:=lD hby0;clear hby0;go_enter Tryz.func14,Tryz.ntmps14
 go_wp2
 exact ay):p:=h
theorem dA {p:Prop} (h:p:=by
 go_enter Tryz.func116,Tryz.ntmps116
 go_wp2_with (go_at_call 151;refine(jD _ HB.out).mono ?_;rintro e w1 ⟨rfl,hb1,hc1⟩;have hq7:=hc1 ⟨w.heap.size,7,none⟩ (.slice ka (0) kc) eB)
 exact aR):p:=h
theorem dB {p:Prop} (h:p:=by
 go_enter Tryz.func116,Tryz.ntmps116
 go_wp2_with (go_at_call 151;refine(jD _ HB.out).mono ?_;rintro e w1 ⟨rfl,hb1,hc1⟩;have hq7:=hc1 ⟨w.heap.size,7,none⟩ (.slice ka (1) kc) eB)
 exact aR):p:=h
theorem dC {p:Prop} (h:p:=by
 rw [show i+1-1=i from rfl,wW h2,h3] at hx;injection hx with hx;subst hx;first|exact HW.out|rfl):p:=h
theorem dD {p:Prop} (h:p:=by
 go_enter Tryz.func68,Tryz.ntmps68
 go_wp2_with (first|(go_at_call 99;refine(jc _ _ _ _ eu eu eB).mono ?_;rintro e w1 ⟨rfl,rfl⟩)|(go_at_call 98;refine(j6 _ eu eu eu HN.out).mono ?_;rintro e w1 ⟨rfl,rfl⟩))
 exact aG):p:=h
theorem dE {p:Prop} (h:p:=by
 go_wp2
 go_roundw
 case rel=>exact⟨H+1,j,k,by go_num,rfl,by omega,by omega,by omega,by omega,hrq,hgq,HE2⟩
 case measure=>simp [intOf];omega):p:=h
theorem dF {p:Prop} (h:p:=by
 go_wp2
 go_roundw
 case rel=>exact⟨i,H,k,rfl,rfl,by omega,by omega,by omega,by omega,hrq,hgq,HE2⟩
 case measure=>simp [intOf];omega):p:=h
theorem dG {p:Prop} (h:p:=by
 iterate 8 (refine gO ?_ ex _)
 exact hg1):p:=h
theorem dH {p:Prop} (h:p:=by
 exact(hb.alloc hB _).trans (hfr2.below eC (by simp;have:=hbl.le;omega))):p:=h
theorem dI {p:Prop} (h:p:=by
 refine⟨rfl,?_⟩;iterate 8 (refine RdE.setHi ?_ ex _)
 exact⟨_,HRD1.out⟩):p:=h
theorem dJ {p:Prop} (h:p:=by
 rw [Hr.out,xU,←HPV.out,←HR.out]):p:=h
theorem dK {p:Prop} (h:p:=by
 rw [show wq.heap.size=(wq).heap.size from by first|rfl|simp [World.setCell]];exact Sl.lit (n:=1) (sz:=2) (heap_alloc_new (wq) (.cells #[.string ⟨(c).toArray⟩,.string ⟨(c).toArray⟩] 58)) rfl):p:=h
theorem dL {p:Prop} (h:p:=by
 rw [HY.out];refine OwnX.app (ds:=[_]) (m:=1) HRV6.out (.cons (HCV6.out.mono fun b hb _=>?_) .nil) rfl ?_ hq7 hmv
 ·exact⟨by omega,fun e=>by have:=(hlta b e).2;omega⟩
 ·simpa using ho7):p:=h
theorem dM {p:Prop} (h:p:=by
 have HR2:Hid (Except.error q=R):=ab fY;have HR:=HR2;have hg2:=gG hg1 hq2;have hby2:=gJ HBY1.out hq2 eu;exact ax):p:=h
theorem dN {p:Prop} (h:p:=by
 have HR2:Hid (Except.error q=R):=ab fY;have HR:=HR2;have hg2:=gG hg2 hq2;have hby2:=gJ HBY2.out hq2 eu;exact ax):p:=h
theorem dO {p:Prop} (h:p:=by
 iterate 8 (refine RdT.setHi ?_ ex _)
 exact HRD1.out):p:=h
theorem dP {p:Prop} (h:p:=by
 have he:List.isEmpty (p)=true:=by simp [hp0]
 have HP0:=ab hp0;clear hp0;exact aw):p:=h
theorem dQ {p:Prop} (h:p:=by
 iterate 8 (refine Below.setCell ?_ eB _)
 exact hbw1):p:=h
theorem dR {p:Prop} (h:p:=by
 clear hb0 hta HNO;go_wp2_with (go_at_call 11;refine(n6 _).mono ?_;rintro e w9 ⟨rfl,hb9⟩)
 go_ret
 exact⟨rfl,bel2 (bel2 HB8.out HBR.out) hb9⟩):p:=h
theorem dS {p:Prop} (h:p:=by
 simp only at hkind;subst hkind
 have HPV:Hid (jO ps ⟨0,(fn:Int),cse,thn,els⟩=thn):=ab fq;exact aF):p:=h
theorem dU {p:Prop} (h:p:=by
 obtain⟨i,j,k,rfl,rfl,hi,hij,hj,hk,hro,hg,HF⟩:=hrel;clear HT HRO;by_cases hlt:i<j
 ·exact ae
 ·have hij2:T=i:=by
   exact aP
  exact bi):p:=h
theorem dV {p:Prop} (h:p:=by
 obtain⟨i,j,k,rfl,rfl,hi,hij,hj,hk,hro,hg,HF⟩:=hrel;clear HT HRO;by_cases hlt:i<j
 ·exact ae
 ·have hij2:T=i:=by
   exact aP
  exact bU):p:=h
theorem dW {p:Prop} (h:p:=by
 go_wp2_with (go_at_call 99;refine(jc _ _ _ _ eu eu eB).mono ?_;rintro e w1 ⟨rfl,rfl⟩)
 exact aG):p:=h
theorem dX {p:Prop} (h:p:=by
 injection h with h;injection h with _ h;subst h;simp at *;omega):p:=h
theorem dY {p:Prop} (h:p:=by
 refine⟨rfl,?_⟩;iterate 8 (refine RdE.setHi ?_ ex _)
 exact⟨_,HRD6.out⟩):p:=h
theorem dZ {p:Prop} (h:p:=by
 rw [xm,show gR (rows++[(c,c)])=gR rows++gR [(c,c)] from by simp [gR]];exact hown7):p:=h
theorem d9 {p:Prop} (h:p:=by
 refine⟨by simp;try omega,by simp;try omega,j+1,by omega,by omega,(iv HJ3.out).2.2,by simp⟩):p:=h
theorem ec {p:Prop} (h:p:=by
 go_wp2_with (go_at_call 36;refine(iU _ HIX.out).mono ?_;rintro e w4 ⟨rfl,rfl⟩)
 exact ay):p:=h
theorem ee {p:Prop} (h:p:=by
 refine gN eA eA ?_;repeat (go_big_quiet_step ((fail)))
 exact bI):p:=h
theorem ef {p:Prop} (h:p:=by
 have he:List.isEmpty (p)=false:=by simpa using hp0
 have HP0:=ab hp0;clear hp0;exact aF):p:=h
theorem eh {p:Prop} (h:p:=by
 first|omega|(simp;done)|(simp;omega)):p:=h
theorem ei {p:Prop} (h:p:=by
 exact(hg1.block _ (gI HBY.out) (i0 hown HBY.out ez).symm).trans HBY.out):p:=h
theorem el {p:Prop} (h:p:=by
 iterate 8 (refine Below.setCell ?_ ex _)
 exact hbl7):p:=h
theorem em {p:Prop} (h:p:=by
 clear HF2;go_wp2
 go_ret2
 exact⟨hg,by rw [←HF3.out];exact⟨⟨_,rfl⟩,_,HRD.out⟩⟩):p:=h
theorem eo {p:Prop} (h:p:=by
 iterate 8 (refine gO ?_ ex _)
 exact hg8):p:=h
theorem ep {p:Prop} (h:p:=by
 have hc9:0≤cv:=eu;have HE2:=ab ((wX hc0).symm.trans HF2.out);clear hc0;simp only [hc0',Bool.not_false];exact dE):p:=h
theorem et {p:Prop} (h:p:=by
 have HE2:=ab ((wU hc0).symm.trans HF2.out);simp only [hc0',Bool.not_true];exact dF):p:=h
end Go.Proofs.YtbnkaecmgfolpaaGreat
