/- walks of the references: ref13.May; ref15.many -/
import Derived.Test.YtjggmmaojklmpaaGreatDoorKb29
import Derived.Test.YtjggmmaojklmpaaGreatDoorKb20
set_option maxRecDepth 100000
set_option maxHeartbeats 4000000
namespace Go.Proofs.YtjggmmaojklmpaaGreatDoor
open Go.RowKit
theorem tN (S:Nat→Prop) (x:Rx) (cc:List Value) (w:World) (hm:x.parts≤1000000) (hsm:x.small) (hv:RxV w S cc x) :
  Calls Tryz.prog 22 #[.agg cc.toArray] w fun e w'=>e=.returned (.bool (mayB x))∧Below w.heap.size w w':=by
 have HR:Hid (mayB x=(decide ((x.parts:Int)≤512)&&decide ((x.deep:Int)≤16)&&x.wf)):=ab (by simp only [mayB,okB];cases x.wf<;>simp);have hdp:=Rx.deep_parts x;obtain⟨p,hp⟩:∃p,x.parts=p:=⟨_,rfl⟩;obtain⟨d,hd⟩:∃d,x.deep=d:=⟨_,rfl⟩;obtain⟨f,hf⟩:∃f,x.wf=f:=⟨_,rfl⟩;rw [hp,hd,hf] at HR;rw [hp] at hm hdp;rw [hd] at hdp;have HP:=ab hp;have HD:=ab hd;have HF:=ab hf;have HSM:=ab hsm;clear hp hd hf hsm;obtain⟨k,c,ng,rs,lo,hi,lz,ks⟩:=x;obtain⟨ra,rc,ka,kc,rfl,hrs,hx⟩:=hv.open_;obtain⟨w0,hw0⟩:∃w0,w0=w.alloc (.cells #[.int .i64 k,.string ⟨c.toArray⟩,.bool ng,.slice ra rs.length rc,.int .i64 lo,.int .i64 hi,.bool lz,.slice ka ks.length kc] 25):=⟨_,rfl⟩;have hb0:Below w.heap.size w w0:=by rw [hw0];exact(Below.refl _ _).alloc (Dv _) _
 have hbx0:w0.heap[w.heap.size]?=some (.cells #[.int .i64 k,.string ⟨c.toArray⟩,.bool ng,.slice ra rs.length rc,.int .i64 lo,.int .i64 hi,.bool lz,.slice ka ks.length kc] 25 (0,0)):=by rw [hw0];exact heap_alloc_new w _
 have HV:=ab (hv.later hb0);have HBX:=ab hbx0;have HW0:=ab hw0;rw [hw0] at HV;clear hv hrs hx hbx0 hw0;unfold rxc at HV ⊢;by_cases g1:(p:Int)≤512
 ·have g1':decide ((p:Int)≤512)=true:=DN g1
  by_cases g2:(d:Int)≤16
  ·have g2':decide ((d:Int)≤16)=true:=DN g2
   have HE:Hid (mayB (.mk k c ng rs lo hi lz ks)=f):=ab (by rw [HR.out,g1',g2'];rfl);rw [HE.out];go_enter Tryz.func22,Tryz.ntmps22
   go_wp2_with (go_at_call 43;refine(oM S _ _ (Dv _) iP _ _ HV.out).mono ?_)
   first|rintro e w1 rfl hb1|rintro e w1 ⟨rfl,hb1⟩
   rw [HP.out];rw [←HW0.out] at hb1;replace hb1:Below w0.heap.size w0 w1:=hb1.mono jw;have hbb1:=bel2 hb0 hb1;have hbx1:=(hb1.block _ (jA HBX.out)).trans HBX.out;have HV1:=ab ((show RxV w0 S _ _ by rw [HW0.out];exact HV.out).later hb1);have HBX1:=ab hbx1;obtain⟨e0,e1,e2,e3,e4,e5,e6,e7,e8⟩:=jD hbx1;clear hb1 hbx1;go_wp2_with (go_at_call 44;refine(rM S _ _ (Dv _) iP _ _ HV1.out).mono ?_)
   first|rintro e w2 rfl hb2|rintro e w2 ⟨rfl,hb2⟩
   rw [HD.out];have hbb2:=bel2 hbb1 hb2;have hbx2:=(hb2.block _ (jA HBX1.out)).trans HBX1.out;have HV2:=ab (HV1.out.later hb2);clear e0 e1 e2 e3 e4 e5 e6 e7 e8;obtain⟨e0,e1,e2,e3,e4,e5,e6,e7,e8⟩:=jD hbx2;clear hb2 hbx2;go_wp2_with (go_at_call 45;refine(zu S _ _ (Dv _) iP HSM.out _ _ HV2.out).mono ?_;rintro e w3 ⟨rfl,hb3⟩;rw [HF.out])
   go_ret
   exact⟨rfl,bel2 hbb2 hb3⟩
  ·have g2':decide ((d:Int)≤16)=false:=DU g2
   have HE:Hid (mayB (.mk k c ng rs lo hi lz ks)=false):=ab (by rw [HR.out,g1',g2'];rfl);rw [HE.out];go_enter Tryz.func22,Tryz.ntmps22
   go_wp2_with (go_at_call 43;refine(oM S _ _ (Dv _) iP _ _ HV.out).mono ?_)
   first|rintro e w1 rfl hb1|rintro e w1 ⟨rfl,hb1⟩
   rw [HP.out];rw [←HW0.out] at hb1;replace hb1:Below w0.heap.size w0 w1:=hb1.mono jw;have hbb1:=bel2 hb0 hb1;have hbx1:=(hb1.block _ (jA HBX.out)).trans HBX.out;have HV1:=ab ((show RxV w0 S _ _ by rw [HW0.out];exact HV.out).later hb1);have HBX1:=ab hbx1;obtain⟨e0,e1,e2,e3,e4,e5,e6,e7,e8⟩:=jD hbx1;clear hb1 hbx1;go_wp2_with (go_at_call 44;refine(rM S _ _ (Dv _) iP _ _ HV1.out).mono ?_)
   first|rintro e w2 rfl hb2|rintro e w2 ⟨rfl,hb2⟩
   rw [HD.out];have hbb2:=bel2 hbb1 hb2;have hbx2:=(hb2.block _ (jA HBX1.out)).trans HBX1.out;have HV2:=ab (HV1.out.later hb2);clear e0 e1 e2 e3 e4 e5 e6 e7 e8;obtain⟨e0,e1,e2,e3,e4,e5,e6,e7,e8⟩:=jD hbx2;clear hb2 hbx2;go_wp2
   go_ret
   exact⟨rfl,hbb2⟩
 ·have g1':decide ((p:Int)≤512)=false:=DU g1
  have HE:Hid (mayB (.mk k c ng rs lo hi lz ks)=false):=ab (by rw [HR.out,g1'];rfl);rw [HE.out];go_enter Tryz.func22,Tryz.ntmps22
  go_wp2_with (go_at_call 43;refine(oM S _ _ (Dv _) iP _ _ HV.out).mono ?_)
  first|rintro e w1 rfl hb1|rintro e w1 ⟨rfl,hb1⟩
  rw [HP.out];rw [←HW0.out] at hb1;replace hb1:Below w0.heap.size w0 w1:=hb1.mono jw;have hbb1:=bel2 hb0 hb1;have hbx1:=(hb1.block _ (jA HBX.out)).trans HBX.out;have HV1:=ab ((show RxV w0 S _ _ by rw [HW0.out];exact HV.out).later hb1);have HBX1:=ab hbx1;obtain⟨e0,e1,e2,e3,e4,e5,e6,e7,e8⟩:=jD hbx1;clear hb1 hbx1;go_wp2
  go_ret
  exact⟨rfl,hbb1⟩
theorem rP {n:Int} (w:World) (h0:0≤n) (h1:n≤10000) :
  Calls Tryz.prog 38 #[.int .i64 n] w fun e w'=>e=.returned (.string ⟨(dec n).toArray⟩)∧Below w.heap.size w w':=by
 obtain⟨m,rfl⟩:=Int.eq_ofNat_of_zero_le h0;exact sZ m w fR
theorem many_any (lo hi:Int) (w:World) (h0:0≤lo) (h1:lo≤255) (h2:hi=-1∨lo≤hi∧hi≤255) :
  Calls Tryz.prog 66 #[.int .i64 lo,.int .i64 hi] w fun e w'=>e=.returned (.string ⟨(oftS lo hi).toArray⟩)∧Below w.heap.size w w':=by
 generalize hR:oftS lo hi=R
 have HR:=ab hR;clear hR;have hl:=nJ h0 (by omega:lo≤9999);rcases h2 with rfl|⟨h3,h4⟩
 ·by_cases hl0:lo=0
  ·subst hl0
   go_enter Tryz.func66,Tryz.ntmps66
   exact ce
  by_cases hl1:lo=1
  ·subst hl1
   go_enter Tryz.func66,Tryz.ntmps66
   exact ce
  have e0:(lo==0)=false:=jh;have e1:(lo==1)=false:=ji;have e2:(lo==-1)=false:= gI;have HR2:Hid (R=123::(dec lo++[44,125])):=ab (by
   rw [←HR.out];unfold oftS;rw [Du fR,Du fR,Du fR,Du fR,Dr rfl])
  clear hl0 hl1 HR;exact bG
 ·have hh:=nJ (n:=hi) fR fR
  have e2:(hi==-1)=false:=by rw [DV];omega
  by_cases hlh:lo=hi
  ·subst hlh
   have HR2:Hid (R=123::(dec lo++[125])):=ab (by
    rw [←HR.out];unfold oftS;rw [Du fR,Du fR,Du fR,Dr rfl])
   clear HR;by_cases hl0:lo=0
   ·subst hl0
    exact bG
   by_cases hl1:lo=1
   ·subst hl1
    exact bG
   ·have e0:(lo==0)=false:=jh
    have e1:(lo==1)=false:=ji;clear hl0 hl1;exact bG
  ·by_cases hq:lo=0∧hi=1
   ·obtain⟨rfl,rfl⟩:=hq
    go_enter Tryz.func66,Tryz.ntmps66
    exact ce
   have HR2:Hid (R=123::(dec lo++44::(dec hi++[125]))):=ab (by
    rw [←HR.out];unfold oftS;rw [Du fR,Du fR,Du fR,Du hlh,Du fR])
   have e3:(lo==hi)=false:=by simpa using hlh
   clear HR;by_cases hl0:lo=0
   ·subst hl0
    have e4:(hi==1)=false:=by rw [DV];omega
    clear hq hlh;exact bj
   by_cases hl1:lo=1
   ·subst hl1
    clear hq hlh;exact bj
   ·have e0:(lo==0)=false:=jh
    have e1:(lo==1)=false:=ji;clear hl0 hl1 hq hlh;exact bj
theorem wX {th c:Str} (w:World) (hc:c≠[]) (hs:c.length≤1000000) (ht:th.length≤1000) :
  Calls Tryz.prog 64 #[.string ⟨c.toArray⟩,.string ⟨th.toArray⟩] w fun e w'=>e=.returned (.string ⟨(escL th c).toArray⟩)∧Below w.heap.size w w' :=
 (sign_any th c w hc fR ht).mono fun _ _ ⟨h1,n,h2⟩=>⟨h1,by rw [h2];exact below_drewN (Below.refl _ _) n⟩
def StRel (rs:List (Str × Str)) (T:Str) (w1:World) (s q:Value) (wr:World):Prop :=
 ∃(k:Nat) (acc:Str),k≤rs.length∧q=.int .i64 k∧s=.string ⟨acc.toArray⟩∧Below w1.heap.size w1 wr∧acc.length≤20000000∧Hid (acc++(rs.drop k).flatMap rowS=T)
theorem RSet_any (kd:Int) (c:Str) (ng:Bool) (ra:Option Addr) (rs:List (Str × Str)) (rc:Nat) (lo hi:Int) (lz:Bool) (ka:Option Addr) (kn kc:Nat) (w:World)
  (hr:Sl w w.heap.size ra 2 rs.length (jN rs)) (hne:∀r∈rs,r.1≠[]∧r.2≠[]) (hsz:∀r∈rs,r.1.length≤1000000∧r.2.length≤1000000) (hrl:rs.length≤1000000)
  (hlen:(setS ng rs).length≤10000000) :
  Calls Tryz.prog 65 #[.agg #[.int .i64 kd,.string ⟨c.toArray⟩,.bool ng,.slice ra rs.length rc,.int .i64 lo,.int .i64 hi,.bool lz,.slice ka kn kc]] w fun e w'=>e=.returned (.string ⟨(setS ng rs).toArray⟩)∧Below w.heap.size w w':=by
 have HNE:=ab hne;have HSZ:=ab hsz;have HR1:=ab hr;obtain⟨w0,hw0⟩:∃w0,w0=w.alloc (.cells #[.int .i64 kd,.string ⟨c.toArray⟩,.bool ng,.slice ra rs.length rc,.int .i64 lo,.int .i64 hi,.bool lz,.slice ka kn kc] 25):=⟨_,rfl⟩;have hb0:Below w.heap.size w w0:=by rw [hw0];exact(Below.refl _ _).alloc (Dv _) _
 have Z3:Hid (w0.cell? ⟨w.heap.size,3,none⟩=some (.slice ra rs.length rc)):=ab iR;clear hne hsz hr;cases ng with
 | false =>
  obtain⟨T,hT⟩:∃T,([91])++rs.flatMap rowS=T:=⟨_,rfl⟩;have HT0:Hid (([91])++(rs.drop 0).flatMap rowS=T):=ab hT;have HTL:T.length≤10000000:=by rw [←hT];have h:=hlen;simp only [setS,DW,if_false,DE,Dx,DP] at h ⊢;omega
  have HTT:=ab hT;clear hT hlen;go_enter Tryz.func65,Tryz.ntmps65
  go_wp2
  rw [←hw0];clear hw0;go_loopw [3,4] (fun s q wr=>StRel rs T w0 s q wr) (fun _ q _=>rs.length-(intOf q).toNat)
  case atStart=>exact⟨0,[91],by omega,rfl,rfl,Below.refl _ _,by simp,HT0⟩
  case round =>
   exact aD
 | true =>
  obtain⟨T,hT⟩:∃T,([91,94])++rs.flatMap rowS=T:=⟨_,rfl⟩;have HT0:Hid (([91,94])++(rs.drop 0).flatMap rowS=T):=ab hT;have HTL:T.length≤10000000:=by rw [←hT];have h:=hlen;simp only [setS,if_true,DE,Dx,DP] at h ⊢;omega
  have HTT:=ab hT;clear hT hlen;go_enter Tryz.func65,Tryz.ntmps65
  go_wp2
  rw [←hw0];clear hw0;go_loopw [3,4] (fun s q wr=>StRel rs T w0 s q wr) (fun _ q _=>rs.length-(intOf q).toNat)
  case atStart=>exact⟨0,[91,94],by omega,rfl,rfl,Below.refl _ _,by simp,HT0⟩
  case round =>
   exact aD
def RsC (S:Nat→Prop) (x:Rx):Prop:=∀(cc:List Value) (w:World),RxV w S cc x→x.tell.length≤10000000 →
  Calls Tryz.prog 37 #[.agg cc.toArray] w fun e w'=>e=.returned (.string ⟨(x.tell).toArray⟩)∧Below w.heap.size w w'
def RsRel (ks:List Rx) (f:List Rx→Str) (T:Str) (w1:World) (s q:Value) (wr:World):Prop :=
 ∃(k:Nat) (acc:Str),k≤ks.length∧q=.int .i64 k∧s=.string ⟨acc.toArray⟩∧Below w1.heap.size w1 wr∧Hid (acc++f (ks.drop k)=T)
theorem len1' {α:Type} {l:List α} (h:l.length=1):∃a,l=[a]:=by
 match l,h with
 | [a],_=>exact⟨a,rfl⟩
theorem vK (S:Nat→Prop):∀(N:Nat) (x:Rx),x.parts≤N→x.small→x.wf=true→RsC S x
 | 0,x,h,_,_=>by have:=Rx.parts_pos x;omega
 | N+1,.mk k c ng rs lo hi lz ks,h,hsm,hwf=>by
  intro cc w hv hlen;obtain⟨ra,rc,ka,kc,rfl,hrs,hx⟩:=hv.open_;obtain⟨⟨s1,s2,s3,s4⟩,hsmL⟩:=hsm;obtain⟨hf,hwl⟩:=BE hwf;simp only [Rx.parts] at h;have ih:∀y∈ks,RsC S y:=fun y hy=>vK S N y gS (kV hsmL hy) (sJ hwl hy)
  have IH:=ab ih;obtain⟨w0,hw0⟩:∃w0,w0=w.alloc (.cells #[.int .i64 k,.string ⟨c.toArray⟩,.bool ng,.slice ra rs.length rc,.int .i64 lo,.int .i64 hi,.bool lz,.slice ka ks.length kc] 25):=⟨_,rfl⟩;have hb0:Below w.heap.size w w0:=by rw [hw0];exact(Below.refl _ _).alloc (Dv _) _
  have hbx0:w0.heap[w.heap.size]?=some (.cells #[.int .i64 k,.string ⟨c.toArray⟩,.bool ng,.slice ra rs.length rc,.int .i64 lo,.int .i64 hi,.bool lz,.slice ka ks.length kc] 25 (0,0)):=by rw [hw0];exact heap_alloc_new w _
  have HX:=ab (hx.later hb0);have HRS:=ab (hrs.keep (Kept.all hb0)).sl;have HBX:=ab hbx0;have HS3:=ab s3;have hlw:=jA hbx0;clear hx hv hrs ih hsmL hbx0 s3 hwl hwf;unfold rxc;rcases uD hf with rfl|rfl|rfl|rfl|rfl|rfl|rfl|rfl|rfl|rfl|rfl|rfl
  ·obtain⟨T,hT⟩:∃T,(Rx.mk 0 c ng rs lo hi lz ks).tell=T:=⟨_,rfl⟩
   have HT0:Hid ([]++Rx.tellL (ks.drop 0)=T):=ab (by rw [←hT];simp [Rx.tell]);rw [hT] at hlen ⊢;clear hT hf;go_enter Tryz.func37,Tryz.ntmps37
   go_wp2
   rw [←hw0];clear hw0;go_loopw [3,4] (fun s q wr=>RsRel ks Rx.tellL T w0 s q wr) (fun _ q _=>ks.length-(intOf q).toNat)
   case atStart=>exact⟨0,[],by omega,rfl,rfl,Below.refl _ _,HT0⟩
   case round =>
    obtain⟨i,acc,hik,rfl,rfl,hb,HF⟩:=hrel;clear HT0;have hB:=hb.size;have hbb:=hb0.trans (hb.mono hb0.size);have z7:=(jD ((hb.block _ (jA HBX.out)).trans HBX.out)).2.2.2.2.2.2.2.1;cases hd:ks.drop i with
    | nil =>
     have h2:ks.length≤i:=gm;have HE:Hid (acc=T):=ab (by rw [←HF.out,hd];simp [Rx.tellL]);clear hd HF;go_wp2
     go_ret
     exact⟨kQ HE.out,hbb⟩
    | cons y r =>
     have hym:=fun h3=>IH.out y (DL (i:=i) h3)
     have HYM:=ab hym;clear hym;obtain⟨h2,h3,hr⟩:=jO hd;obtain⟨yk,yc,yn,yr,yl,yh,yz,ys⟩:=y;obtain⟨b,o,ya,yrc,yka,ykc,rfl,hS,hbB,_,_,hyv,c0,c1,c2,c3,c4,c5,c6,c7⟩:=(HX.out.later hb).cells h3;have hyp:=Rx.parts_mem (DL h3);have Hr:=ab hr;have HYV:=ab hyv;unfold rxc at HYV;have HYM2:=ab (HYM.out h3);have HE:Hid (acc++(Rx.tell (.mk yk yc yn yr yl yh yz ys)++Rx.tellL r)=T):=ab gC;have hle:acc.length+(Rx.tell (.mk yk yc yn yr yl yh yz ys)).length≤10000000:=by
      have h:=DQ List.length HE.out;simp only [DE] at h;omega
     clear hd HF hr h3 hyv HYM;go_wp2_with (go_at_call 37;refine(HYM2.out _ _ HYV.out fR).mono ?_;rintro e w1 ⟨rfl,hb1⟩)
     go_roundw
     case rel=>exact⟨i+1,acc++Rx.tell (.mk yk yc yn yr yl yh yz ys),by omega,by go_num,rfl,bel2 hb hb1,ab (by rw [Hr.out,←HE.out];simp)⟩
     case measure=>simp [intOf];omega
  ·have h1:1<ks.length:=by simp [jT] at hf;exact hf.1.2
   obtain⟨T,hT⟩:∃T,(Rx.mk 1 c ng rs lo hi lz ks).tell=T:=⟨_,rfl⟩;rw [hT] at hlen ⊢;obtain⟨y0,hy0⟩:∃y0,ks[0]?=some y0:=⟨_,Dt fR⟩;have HT0:Hid (y0.tell++Rx.tellA true (ks.drop 1)=T):=ab (by
    rw [←hT];cases ks with
    | nil=>simp at h1
    | cons a l=>simp at hy0;subst hy0;simp [Rx.tell,Rx.tellA])
   have IHY:=ab (IH.out y0 (DL hy0));obtain⟨yk,yc,yn,yr,yl,yh,yz,ys⟩:=y0;obtain⟨b,o,ya,yrc,yka,ykc,rfl,hS,hbB,_,_,hyv,c0,c1,c2,c3,c4,c5,c6,c7⟩:=HX.out.cells hy0;simp only [Nat.zero_mul,Nat.add_zero] at c0 c1 c2 c3 c4 c5 c6 c7;have HYV:=ab hyv;unfold rxc at HYV;have hle:(Rx.tell (.mk yk yc yn yr yl yh yz ys)).length≤10000000:=by
    have h:=DQ List.length HT0.out;simp only [DE] at h;omega
   clear hT hf hyv hy0;rw [hw0] at c0 c1 c2 c3 c4 c5 c6 c7 HYV;go_enter Tryz.func37,Tryz.ntmps37
   go_wp2_with (go_at_call 37;refine(IHY.out _ _ HYV.out hle).mono ?_)
   first|rintro e w1 rfl hb1|rintro e w1 ⟨rfl,hb1⟩
   rw [←hw0] at hb1;replace hb1:Below w0.heap.size w0 w1:=hb1.mono iR;have HX1:=ab (HX.out.later hb1);have hbw1:=bel2 hb0 hb1;have HBX1:=ab ((hb1.block _ (jA HBX.out)).trans HBX.out);clear hb1 c0 c1 c2 c3 c4 c5 c6 c7 HYV hw0;go_wp2
   go_loopw [5,6] (fun s q wr=>RsRel ks (Rx.tellA true) T w1 s q wr) (fun _ q _=>ks.length-(intOf q).toNat)
   case atStart=>exact⟨1,_,by omega,rfl,rfl,Below.refl _ _,HT0⟩
   case round =>
    obtain⟨i,acc,hik,rfl,rfl,hb,HF⟩:=hrel;clear HT0;have hB:=hb.size;have hbb:=bel2 hbw1 hb;have z7:=(jD ((hb.block _ (jA HBX1.out)).trans HBX1.out)).2.2.2.2.2.2.2.1;cases hd:ks.drop i with
    | nil =>
     have h2:ks.length≤i:=gm;have HE:Hid (acc=T):=ab (by rw [←HF.out,hd];simp [Rx.tellA]);clear hd HF;go_wp2
     go_ret
     exact⟨kQ HE.out,hbb⟩
    | cons y r =>
     have hym:=fun h3=>IH.out y (DL (i:=i) h3)
     have HYM:=ab hym;clear hym;obtain⟨h2,h3,hr⟩:=jO hd;obtain⟨zk,zc,zn,zr,zl,zh,zz,zs⟩:=y;obtain⟨b',o',za,zrc,zka,zkc,hbo,hS',hbB',_,_,hzv,d0,d1,d2,d3,d4,d5,d6,d7⟩:=(HX1.out.later hb).cells h3;obtain⟨rfl,rfl⟩:b=b'∧o=o':=by simpa using hbo
     have Hr:=ab hr;have HZV:=ab hzv;unfold rxc at HZV;have HYM2:=ab (HYM.out h3);have HE:Hid (acc++([124]++(Rx.tell (.mk zk zc zn zr zl zh zz zs)++Rx.tellA true r))=T):=ab gC;have hle2:acc.length+1+(Rx.tell (.mk zk zc zn zr zl zh zz zs)).length≤10000000:=by
      have h:=DQ List.length HE.out;simp only [DE,Dx,DP] at h;omega
     clear hd HF hr h3 hzv HYM hbo;go_wp2_with (go_at_call 37;refine(HYM2.out _ _ HZV.out fR).mono ?_;rintro e w2 ⟨rfl,hb2⟩)
     go_roundw
     case rel=>exact⟨i+1,acc++[124]++Rx.tell (.mk zk zc zn zr zl zh zz zs),by omega,by go_num,by simp,bel2 hb hb2,ab (by rw [Hr.out,←HE.out];simp)⟩
     case measure=>simp [intOf];omega
  ·have hp:kj c=true:=by simp [jT] at hf;exact hf.2
   have HP:=ab (pX hp);clear hp hf;go_enter Tryz.func37,Tryz.ntmps37
   go_wp2_with (go_at_call 64;refine(wX _ HP.out s1 fU).mono ?_;rintro e w1 ⟨rfl,hb1⟩)
   rw [←hw0] at hb1;go_ret
   exact⟨kQ (by simp [Rx.tell];rfl),bel2 hb0 (hb1.mono iR)⟩
  ·exact bY
  ·have hp:ox rs=true:=by simp [jT] at hf;exact hf.2
   have HNE:=ab (xi hp);have HT:Hid ((Rx.mk 4 c ng rs lo hi lz ks).tell=setS ng rs):=ab (by simp [Rx.tell]);rw [HT.out] at hlen ⊢;rw [hw0] at HRS;clear hp hf;go_enter Tryz.func37,Tryz.ntmps37
   go_wp2_with (go_at_call 65;refine(RSet_any _ _ _ _ rs _ _ _ _ _ _ _ _ HRS.out HNE.out HS3.out s2 hlen).mono ?_;rintro e w1 ⟨rfl,hb1⟩)
   rw [←hw0] at hb1;go_ret
   exact⟨rfl,bel2 hb0 (hb1.mono iR)⟩
  ·have h1:ks.length=1:=by simp [jT] at hf;exact hf.2
   obtain⟨y,rfl⟩:=len1' h1;obtain⟨yk,yc,yn,yr,yl,yh,yz,ys⟩:=y;obtain⟨b,o,ya,yrc,yka,ykc,rfl,hS,hbB,_,_,hyv,c0,c1,c2,c3,c4,c5,c6,c7⟩:=HX.out.cells (m:=0) rfl;simp only [Nat.zero_mul,Nat.add_zero] at c0 c1 c2 c3 c4 c5 c6 c7;have HYV:=ab hyv;unfold rxc at HYV;have IHY:=ab (IH.out (.mk yk yc yn yr yl yh yz ys) fX);simp only [Dx,DP,Nat.zero_add] at hw0 HBX ⊢;clear hyv h1;have HT:Hid ((Rx.mk 5 c ng rs lo hi lz [.mk yk yc yn yr yl yh yz ys]).tell=40::((Rx.mk yk yc yn yr yl yh yz ys).tell++[41])):=ab iv;exact b8
  ·have h1:ks.length=1:=by simp [jT] at hf;exact hf.2
   obtain⟨y,rfl⟩:=len1' h1;obtain⟨yk,yc,yn,yr,yl,yh,yz,ys⟩:=y;obtain⟨b,o,ya,yrc,yka,ykc,rfl,hS,hbB,_,_,hyv,c0,c1,c2,c3,c4,c5,c6,c7⟩:=HX.out.cells (m:=0) rfl;simp only [Nat.zero_mul,Nat.add_zero] at c0 c1 c2 c3 c4 c5 c6 c7;have HYV:=ab hyv;unfold rxc at HYV;have IHY:=ab (IH.out (.mk yk yc yn yr yl yh yz ys) fX);simp only [Dx,DP,Nat.zero_add] at hw0 HBX ⊢;clear hyv h1;have HT:Hid ((Rx.mk 6 c ng rs lo hi lz [.mk yk yc yn yr yl yh yz ys]).tell=40::63::58::((Rx.mk yk yc yn yr yl yh yz ys).tell++[41])):=ab iv;exact b8
  ·simp only [jT] at hf
   rw [Du fU,Du fU,Dr trivial] at hf;simp only [Dy,Dp] at hf;obtain⟨⟨_,g1⟩,g2,g3,g4⟩:=hf;have h1:ks.length=1:=by
    match ks,g1 with
    | [y],_=>rfl
   obtain⟨y,rfl⟩:=len1' h1;obtain⟨yk,yc,yn,yr,yl,yh,yz,ys⟩:=y;obtain⟨b,o,ya,yrc,yka,ykc,rfl,hS,hbB,_,_,hyv,c0,c1,c2,c3,c4,c5,c6,c7⟩:=HX.out.cells (m:=0) rfl;simp only [Nat.zero_mul,Nat.add_zero] at c0 c1 c2 c3 c4 c5 c6 c7;have HYV:=ab hyv;unfold rxc at HYV;have IHY:=ab (IH.out (.mk yk yc yn yr yl yh yz ys) fX);simp only [Dx,DP,Nat.zero_add] at hw0 HBX ⊢;clear hyv h1;have HT:Hid ((Rx.mk 7 c ng rs lo hi lz [.mk yk yc yn yr yl yh yz ys]).tell=(Rx.mk yk yc yn yr yl yh yz ys).tell++oftS lo hi++(if lz=true then [63] else [])):=ab iv;rw [HT.out] at hlen ⊢;simp only [DE] at hlen;have HG4:=ab g4;have HO:Hid (∀w':World,Calls Tryz.prog 66 #[.int .i64 lo,.int .i64 hi] w' fun e w''=>e=.returned (.string ⟨(oftS lo hi).toArray⟩)∧Below w'.heap.size w' w''):=ab (fun w'=>many_any lo hi w' g2 g3 g4);have hbx:=jD HBX.out;have x4:∀x:ExtOf w0,x.val.cell? ⟨w.heap.size,4,none⟩=some (.int .i64 lo):=ExtOf.cell hbx.2.2.2.2.1;have x5:∀x:ExtOf w0,x.val.cell? ⟨w.heap.size,5,none⟩=some (.int .i64 hi):=ExtOf.cell hbx.2.2.2.2.2.1;have x6:∀x:ExtOf w0,x.val.cell? ⟨w.heap.size,6,none⟩=some (.bool lz):=ExtOf.cell hbx.2.2.2.2.2.2.1;have x7:∀x:ExtOf w0,x.val.cell? ⟨w.heap.size,7,none⟩=some (.slice (some ⟨b,o,none⟩) 1 kc):=ExtOf.cell hbx.2.2.2.2.2.2.2.1;have y0:=fun x:ExtOf w0=>ExtOf.cell c0 x
   have y1:=fun x:ExtOf w0=>ExtOf.cell c1 x
   have y2:=fun x:ExtOf w0=>ExtOf.cell c2 x
   have y3:=fun x:ExtOf w0=>ExtOf.cell c3 x
   have y4:=fun x:ExtOf w0=>ExtOf.cell c4 x
   have y5:=fun x:ExtOf w0=>ExtOf.cell c5 x
   have y6:=fun x:ExtOf w0=>ExtOf.cell c6 x
   have y7:=fun x:ExtOf w0=>ExtOf.cell c7 x
   have HYX:Hid (∀x:ExtOf w0,RxV x.val S (rxc yk yc yn ya yr.length yrc yl yh yz yka ys.length ykc) (.mk yk yc yn yr yl yh yz ys)):=ab (fun x=>HYV.out.later x.ext);unfold rxc at HYX;have hle:(Rx.tell (.mk yk yc yn yr yl yh yz ys)).length≤10000000:=fR;clear hbx g4 c0 c1 c2 c3 c4 c5 c6 c7 HYV;go_enter Tryz.func37,Tryz.ntmps37
   go_wp2
   rw [←hw0];clear hw0;refine jF fW fW ?_;repeat (go_big_quiet_step ((first|(go_at_call 37;exact kg (IHY.out _ _ (HYX.out _) hle))|(go_at_call 66;exact kg (HO.out _)))))
   refine wpQuiet_nil ?_;rintro _ ⟨xq,rfl⟩;have z6:=x6 xq;have hbb:=hb0.trans (xq.ext.mono hb0.size);cases lz with
   | false =>
    go_wp2
    go_ret
    exact⟨kQ fX,hbb⟩
   | true =>
    go_wp2
    go_ret
    exact⟨kQ fX,hbb⟩
  ·exact bY
  ·exact bY
  ·exact bY
  ·exact bY
theorem nS (S:Nat→Prop) (x:Rx) (cc:List Value) (w:World) (hm:x.parts≤1000000) (hsm:x.small) (hv:RxV w S cc x) (hmay:mayB x=true) (hlen:x.tell.length≤10000000) :
  Calls Tryz.prog 18 #[.agg cc.toArray] w fun e w'=>e=.returned (.tuple #[.string ⟨(x.tell).toArray⟩,.int .i64 0])∧Below w.heap.size w w':=by
 have hwf:x.wf=true:=by
  have h:=hmay;simp only [mayB,okB,Dy] at h;exact h.1.1
 have HWF:=ab hwf;have HLEN:=ab hlen;clear hwf hlen;obtain⟨k,c,ng,rs,lo,hi,lz,ks⟩:=x;obtain⟨ra,rc,ka,kc,rfl,hrs,hx⟩:=hv.open_;obtain⟨w0,hw0⟩:∃w0,w0=w.alloc (.cells #[.int .i64 k,.string ⟨c.toArray⟩,.bool ng,.slice ra rs.length rc,.int .i64 lo,.int .i64 hi,.bool lz,.slice ka ks.length kc] 25):=⟨_,rfl⟩;have hb0:Below w.heap.size w w0:=by rw [hw0];exact(Below.refl _ _).alloc (Dv _) _
 have hbx0:w0.heap[w.heap.size]?=some (.cells #[.int .i64 k,.string ⟨c.toArray⟩,.bool ng,.slice ra rs.length rc,.int .i64 lo,.int .i64 hi,.bool lz,.slice ka ks.length kc] 25 (0,0)):=by rw [hw0];exact heap_alloc_new w _
 have HV0:=ab (hv.later hb0);have HSM:=ab hsm;have HMAY:=ab hmay;have HBX0:=ab hbx0;have HM:=ab hm;rw [hw0] at HV0;have HW0:=ab hw0;clear hv hrs hx hsm hmay hbx0 hw0 hm;unfold rxc at HV0 ⊢;go_enter Tryz.func18,Tryz.ntmps18
 go_wp2_with (go_at_call 22;refine(tN S _ _ _ HM.out HSM.out HV0.out).mono ?_)
 first|rintro e w1 rfl hb1|rintro e w1 ⟨rfl,hb1⟩
 rw [HMAY.out];rw [←HW0.out] at hb1;replace hb1:Below w0.heap.size w0 w1:=hb1.mono jw;have hbw1:=bel2 hb0 hb1;have HV1:=ab ((show RxV w0 S _ _ by rw [HW0.out];exact HV0.out).later hb1);obtain⟨e0,e1,e2,e3,e4,e5,e6,e7,_⟩:=jD ((hb1.block _ (jA HBX0.out)).trans HBX0.out);clear hb1;go_wp2_with (go_at_call 37;refine(vK S _ _ (Dv _) HSM.out HWF.out _ _ HV1.out HLEN.out).mono ?_;rintro e w2 ⟨rfl,hb2⟩)
 go_ret2
 exact⟨rfl,bel2 hbw1 hb2⟩
def repU (th:Str) (c:UInt8):Str:=th.flatMap fun x=>if x=c then [92] else []
def o0 (th l:Str):Str:=l.flatMap fun c=>repU th c++[c]
theorem rep_eq (c:UInt8):∀{th:Str},th.Nodup→repU th c=if th.contains c=true then [92] else []
 | [],_=>by simp [repU]
 | x::r,h=>by
  rw [List.nodup_cons] at h;have ih:=rep_eq c h.2;have he:repU (x::r) c=(if x=c then [92] else [])++repU r c:=by simp [repU]
  rw [he,ih,List.contains_cons];by_cases hx:x=c
  ·subst hx
   have:r.contains x=false:=by simpa using h.1
   rw [Dr rfl,this];simp
  ·rw [Du hx]
   have:(c==x)=false:=by simpa using fun e=>hx e.symm
   rw [this];simp
theorem yC {th:Str} (h:th.Nodup):∀l:Str,o0 th l=quot th l
 | []=>by simp [o0,quot]
 | c::r=>by
  have ih:=yC h r;have he:o0 th (c::r)=repU th c++[c]++o0 th r:=by simp [o0]
  rw [he,ih,rep_eq c h];simp only [quot];split<;>simp
theorem BO (c:UInt8):∀th:Str,(repU th c).length≤th.length
 | []=>by simp [repU]
 | x::r=>by
  have ih:=BO c r;have he:repU (x::r) c=(if x=c then [92] else [])++repU r c:=by simp [repU]
  rw [he,DE];split<;>simp<;>omega
theorem wJ (th:Str):∀l:Str,(o0 th l).length≤l.length*(th.length+1)
 | []=>by simp [o0]
 | c::r=>by
  have ih:=wJ th r;have hr:=BO c th;have he:o0 th (c::r)=repU th c++[c]++o0 th r:=by simp [o0]
  rw [he,DE,DE,Dx,Dx,Nat.succ_mul];simp;omega
theorem u8_info2:(Tryz.prog.info? 5).map (fun i=>(i.zero,i.size,i.bytes))=some (some (.int .u8 0),1,1):=by kernel_rfl
theorem qg {w:World} {B:Nat} {e:TypeId} {sz:Nat} {v:Value} {n:Nat} {xs:List Value} (h:w.ownsRow B e sz v n xs) (k:Nat):(w.drewN k).ownsRow B e sz v n xs:=h
def GdRel (th l R:Str) (w:World) (v q:Value) (wr:World):Prop :=
 ∃(i:Nat) (bs:Str),i≤l.length∧q=.int .i64 i∧wr.ownsRow w.heap.size 5 1 v bs.length (kx bs)∧Below w.heap.size w wr∧bs.length≤20000000∧Hid (bs++o0 th (l.drop i)=R)
def GiRel (th:Str) (c:UInt8) (s R:Str) (w:World) (v q:Value) (wr:World):Prop :=
 ∃(k:Nat) (bs:Str),k≤th.length∧q=.int .i64 k∧wr.ownsRow w.heap.size 5 1 v bs.length (kx bs)∧Below w.heap.size w wr∧bs.length≤20000000∧Hid (bs++(repU (th.drop k) c++(c::s))=R)
theorem wG (l th:Str) (w:World) (hs:l.length≤1000000) (ht:th.length≤9) (hnd:th.Nodup) :
  Calls Tryz.prog 39 #[.string ⟨l.toArray⟩,.string ⟨th.toArray⟩] w fun e w'=>e=.returned (.string ⟨(quot th l).toArray⟩)∧Below w.heap.size w w':=by
 rw [←yC hnd];have hlen:=wJ th l;have h10:l.length*(th.length+1)≤1000000*10:=Nat.mul_le_mul hs fR;obtain⟨R,hR⟩:∃R,o0 th l=R:=⟨_,rfl⟩;rw [hR] at hlen ⊢;have HR0:Hid (([]:Str)++o0 th (l.drop 0)=R):=ab (by simpa using hR);obtain⟨iu,hiu⟩:=info_parts u8_info2;have hRl:R.length≤10000000:=fR;clear hR hnd hlen h10;go_enter Tryz.func39,Tryz.ntmps39
 go_wp2
 go_loopw [5,6] (fun v q wr=>GdRel th l R w v q wr) (fun _ q _=>l.length-(intOf q).toNat)
 case atStart=>exact⟨0,[],by omega,rfl,World.ownsRow_nil _ _ _ _,Below.refl _ _,by simp,HR0⟩
 case round =>
  obtain⟨i,bs,hik,rfl,hown,hb,hbl,HF⟩:=hrel;clear HR0;have hB:=hb.size;cases hd:l.drop i with
  | nil =>
   have h2:=kN hd;have HE:Hid (bs=R):=ab (by rw [←HF.out,hd];simp [o0]);obtain⟨a,c,rfl⟩:=jX hown;have hcv:=oH (P:=Tryz.prog) Tryz.underlying48 Tryz.underlying5 Tryz.underlying9 hown;clear hd HF;go_wp2
   go_ret
   exact⟨kQ HE.out,hb⟩
  | cons c r =>
   obtain⟨h2,h3,hr⟩:=kh hd;have Hr:=ab hr;have hc256:=po c;obtain⟨T,hT⟩:∃T,o0 th r=T:=⟨_,rfl⟩;have HK0:Hid (bs++(repU (th.drop 0) c++(c::T))=R):=ab (by rw [←HF.out,hd,←hT];simp [o0]);have HT:=ab hT;clear hd HF hr hT;obtain⟨wo,rfl⟩:∃wo:World,wo=wr:=⟨_,rfl⟩;go_wp2
   go_loopw [5,7] (fun v q wk=>GiRel th c T R w v q wk) (fun _ q _=>th.length-(intOf q).toNat)
   case atStart=>exact⟨0,bs,by omega,rfl,hown,hb,hbl,HK0⟩
   case round =>
    obtain⟨k,bk,hkk,rfl,hownk,hbk,hblk,HG⟩:=hrel;clear HK0 hown;have hBk:=hbk.size;have hbkl:bk.length+T.length+1≤10000000:=by
     have h:=DQ List.length HG.out;simp only [DE,Dx] at h;omega
    obtain⟨a,cp,rfl⟩:=jX hownk;cases hdk:th.drop k with
    | nil =>
     have h4:=kN hdk;have HE:Hid (bk++(c::T)=R):=ab (by rw [←HG.out,hdk];simp [repU]);clear hdk HG;go_wp2_with (at_builtin;refine kv w.heap.size 5 rfl _ _ 48 rfl Tryz.underlying48 hiu rfl fU rfl hownk rfl gQ rfl gd fR fU hBk ?_)
     intro v1 w1 ho1 hg1 hb1 hne1;go_wp2
     exact⟨⟨i+1,bk++[c],by omega,by go_num,by simpa [kx] using ho1,hbk.trans (hb1.mono (Dv _)),by simp;omega,ab (by rw [Hr.out,HT.out,←HE.out];simp)⟩,by simp [intOf];omega⟩
    | cons x s =>
     obtain⟨h4,h5,hs⟩:=kh hdk;have Hs:=ab hs;have hx256:=po x;have HG2:Hid (bk++((if x=c then [92] else [])++(repU s c++(c::T)))=R):=ab (by rw [←HG.out,hdk];simp [repU]);clear hdk HG hs;by_cases hxc:x=c
     ·have HE:Hid (bk++([92]++(repU s c++(c::T)))=R):=ab (by rw [←HG2.out,Dr hxc])
      subst hxc;clear HG2;go_wp2
      go_quiet (fail)
      go_wp2_with (at_builtin;refine kv w.heap.size 5 rfl _ _ 48 rfl Tryz.underlying48 hiu rfl fU rfl (qg hownk _) rfl gQ rfl gd fR fU (below_drewN hbk _).size ?_)
      intro v1 w1 ho1 hg1 hb1 hne1;go_wp2
      go_roundw
      case rel=>exact⟨k+1,bk++[92],by omega,by go_num,by simpa [kx] using ho1,(below_drewN hbk _).trans (hb1.mono (Dv _)),by simp;omega,ab (by rw [Hs.out,←HE.out];simp)⟩
      case measure=>simp [intOf];omega
     ·have hne:((x.toNat:Int)==c.toNat)=false:=by
       rw [DV];intro e;exact hxc (Dq.1 fR)
      have HE:Hid (bk++(repU s c++(c::T))=R):=ab (by rw [←HG2.out,Du hxc];simp);clear HG2 hxc;go_wp2
      go_quiet (fail)
      go_wp2
      go_roundw
      case rel=>exact⟨k+1,bk,by omega,by go_num,qg hownk _,below_drewN hbk _,hblk,ab (by rw [Hs.out];exact HE.out)⟩
      case measure=>simp [intOf];omega
theorem bel3 {W w0 w1:World} (h:Below W.heap.size W w0) (h1:Below w0.heap.size w0 w1):Below W.heap.size W w1:=h.trans (h1.mono h.size)
theorem AD {n:Int} (w:World) (h0:0≤n) (h1:n≤10000) :
  Calls Tryz.prog 38 #[.int .i64 n] w fun e w'=>e=.returned (.string ⟨(dec n).toArray⟩)∧Below w.heap.size w w':=by
 obtain⟨m,rfl⟩:=Int.eq_ofNat_of_zero_le h0;exact sZ m w fR
def SfRel (fs:List Fm) (m:Nat) (R:Str) (w:World) (s q:Value) (wr:World):Prop :=
 ∃(k:Nat) (acc:Str),k≤fs.length∧q=.int .i64 k∧s=.string ⟨acc.toArray⟩∧Below w.heap.size w wr∧Hid (acc.length≤k*m)∧Hid (acc++lQ (fs.drop k)=R)
set_option maxRecDepth 100000 in
theorem Bt (a:Option Addr) (c m:Nat) (fs:List Fm) (w:World) (h:Sl w w.heap.size a 5 fs.length (kT fs))
  (hf:∀f∈fs,f.thn.length≤m∧f.els.length≤m) (hm:m≤10000) (hn:fs.length≤1000) (hmay:oW fs=true) :
  Calls Tryz.prog 19 #[.slice a fs.length c] w fun e w'=>e=.returned (.tuple #[.string ⟨(lQ fs).toArray⟩,.int .i64 0])∧Below w.heap.size w w':=by
 have HSl:=ab h;obtain⟨R,hR⟩:∃R,R=lQ fs:=⟨_,rfl⟩;rw [←hR];have HR:=ab hR;have HF:=ab hf;have HMY:=ab hmay;have HM:=ab (pR _ _ hmay);clear hR hf h hmay;go_enter Tryz.func19,Tryz.ntmps19
 go_wp2_with (go_at_call 23;refine(zF _ _ _ fs _ HSl.out fR).mono ?_;rintro e w0 ⟨rfl,hb0⟩;rw [HMY.out])
 have hB0:=hb0.size;go_loopw [4,5] (fun s q wr=>SfRel fs (4*m+20) R w s q wr) (fun _ q _=>fs.length-(intOf q).toNat)
 case atStart=>exact⟨0,[],by omega,rfl,rfl,hb0,ab fX,ab gX⟩
 case round =>
  obtain⟨k,acc,hk,rfl,rfl,hb,HL,HRR⟩:=hrel;clear HR;have hB:=hb.size;have hacc:acc.length≤50000000:=Dz HL.out (Dz (Nat.mul_le_mul (show k≤1000 by omega) (show 4*m+20≤40020 by omega)) fU);cases hd:fs.drop k with
  | nil =>
   have h2:fs.length≤k:=gm;have HE:Hid (acc=R):=ab jl;clear hd HRR;go_wp2
   go_ret2
   exact⟨by rw [HE.out];rfl,hb⟩
  | cons f r =>
   obtain⟨h2,h3,hr⟩:=jO hd;have Hr:=ab hr;have hfm:=DL h3;have hmf:=HM.out f hfm;obtain⟨f1,f2⟩:=HF.out f hfm;obtain⟨n0,n1⟩:=yi hmf;have HRR2:Hid (acc++(lH f++lQ r)=R):=ab (by rw [←HRR.out,hd];rfl);have HPL:=ab (wN hmf f1 f2);have hkind:=sk hmf;obtain⟨b,o,rfl,hbB,c0,c1,c2,c3,c4⟩:=(HSl.out.keep hb).fm h3;obtain⟨kind,fn,cse,thn,els⟩:=f;replace f1:thn.length≤m:=f1;replace f2:els.length≤m:=f2;replace n0:0≤fn:=n0;replace n1:fn≤9999:=n1;have q1:=mg [36,125,92,47,58] thn;have q2:=mg [36,125,92,47,58] els;have q3:=mg [36,125,92,47] thn;have q4:=nP cse;have q5:=nJ n0 n1;obtain⟨wb,hwb⟩:∃wb,wb=wr.alloc (.cells #[.int .i64 kind,.int .i64 fn,.int .i64 cse,.string ⟨thn.toArray⟩,.string ⟨els.toArray⟩] 60):=⟨_,rfl⟩;have hbb:Below wr.heap.size wr wb:=by rw [hwb];exact(Below.refl _ _).alloc (Dv _) _
   have z0:wb.cell? ⟨wr.heap.size,0,none⟩=some (.int .i64 kind):=by rw [hwb];simp
   have z2:wb.cell? ⟨wr.heap.size,2,none⟩=some (.int .i64 cse):=by rw [hwb];simp
   have z3:wb.cell? ⟨wr.heap.size,3,none⟩=some (.string ⟨thn.toArray⟩):=by rw [hwb];simp
   have z4:wb.cell? ⟨wr.heap.size,4,none⟩=some (.string ⟨els.toArray⟩):=by rw [hwb];simp
   have Z0:=ab z0;have Z2:=ab z2;have Z3:=ab z3;have Z4:=ab z4;have HWB:=ab hwb;clear hd HRR hr h3 hfm hmf z0 z2 z3 z4 hwb;go_wp2_with (go_at_call 38;refine(AD _ fR fR).mono ?_)
   first|rintro e w1 rfl hb1|rintro e w1 ⟨rfl,hb1⟩
   rw [←HWB.out] at hb1;replace hb1:Below wb.heap.size wb w1:=hb1.mono (by rw [HWB.out];simp);have y3:∀x:ExtOf w1,x.val.cell? ⟨wr.heap.size,3,none⟩=some (.string ⟨thn.toArray⟩):=ExtOf.cell (jH hb1 _ _ Z3.out);have y4:∀x:ExtOf w1,x.val.cell? ⟨wr.heap.size,4,none⟩=some (.string ⟨els.toArray⟩):=ExtOf.cell (jH hb1 _ _ Z4.out);have Y0:=ab (fun x:ExtOf w1=>ExtOf.cell (jH hb1 _ _ Z0.out) x);have Y2:=ab (fun x:ExtOf w1=>ExtOf.cell (jH hb1 _ _ Z2.out) x);have hbw1:Below w.heap.size w w1:=bel3 (bel3 hb hbb) hb1;clear hb1 hbb;go_wp2
   refine jF fW fW ?_;repeat (go_big_quiet_step ((go_at_call 39;exact kg (wG _ _ _ fR fU fU))))
   refine wpQuiet_nil ?_;rintro _ ⟨xq,rfl⟩;have u0:=Y0.out xq;have u2:=Y2.out xq;have u3:=y3 xq;have hbx:Below w.heap.size w xq.val:=bel3 hbw1 xq.ext;replace hkind:kind=0∨kind=1∨kind=2∨kind=3∨kind=4∨kind=5:=hkind;rcases hkind with rfl|rfl|rfl|rfl|rfl|rfl
   ·go_wp2_with (go_at_call 39;refine(wG _ _ _ fR fU fU).mono ?_;rintro e w3 ⟨rfl,hb3⟩)
    go_roundw
    case rel =>
     refine⟨k+1,acc++lH ⟨0,fn,cse,thn,els⟩,by omega,by go_num,?_,bel3 hbx hb3,ab ?_,ab ?_⟩
     ·exact cd
     ·exact bi
     ·exact dh
    case measure=>simp [intOf];omega
   ·go_wp2
    go_roundw
    case rel =>
     refine⟨k+1,acc++lH ⟨1,fn,cse,thn,els⟩,by omega,by go_num,?_,hbx,ab ?_,ab ?_⟩
     ·exact cd
     ·exact bi
     ·exact dh
    case measure=>simp [intOf];omega
   ·go_wp2_with (go_at_call 40;refine(ru _ _).mono ?_;rintro e w3 ⟨rfl,rfl⟩)
    go_roundw
    case rel =>
     refine⟨k+1,acc++lH ⟨2,fn,cse,thn,els⟩,by omega,by go_num,?_,hbx,ab ?_,ab ?_⟩
     ·exact cd
     ·exact bi
     ·exact dh
    case measure=>simp [intOf];omega
   ·go_wp2
    go_roundw
    case rel =>
     refine⟨k+1,acc++lH ⟨3,fn,cse,thn,els⟩,by omega,by go_num,?_,hbx,ab ?_,ab ?_⟩
     ·exact cd
     ·exact bi
     ·exact dh
    case measure=>simp [intOf];omega
   ·go_wp2
    go_roundw
    case rel =>
     refine⟨k+1,acc++lH ⟨4,fn,cse,thn,els⟩,by omega,by go_num,?_,hbx,ab ?_,ab ?_⟩
     ·exact cd
     ·exact bi
     ·exact dh
    case measure=>simp [intOf];omega
   ·go_wp2
    go_roundw
    case rel =>
     refine⟨k+1,acc++lH ⟨5,fn,cse,thn,els⟩,by omega,by go_num,?_,hbx,ab ?_,ab ?_⟩
     ·exact cd
     ·exact bi
     ·exact dh
    case measure=>simp [intOf];omega
theorem qy (S:Nat→Prop) (f:Tf) (hsm:f.small) (fc:List Value) (w:World) (hv:TfV w S fc f) :
  Calls Tryz.prog 10 #[.agg fc.toArray] w fun e w'=>e=.returned (.bool (mP f))∧Below w.heap.size w w':=by
 obtain⟨rk,rch,rng,rrs,rlo,rhi,rlz,rks,ra,rcp,rka,rkc,fa,fcp,hc⟩:=hv.open_;obtain⟨X,fs,fd,al⟩:=f;obtain⟨hx,hp,hfs⟩:=hsm;have hx1:X=.mk rk rch rng rrs rlo rhi rlz rks:=hc.rx;have hfce:fc=[.int .i64 rk,.string ⟨rch.toArray⟩,.bool rng,.slice ra rrs.length rcp,.int .i64 rlo,.int .i64 rhi,.bool rlz,.slice rka rks.length rkc,.slice fa fs.length fcp,.bool fd,.bool al]:=hc.eq;obtain⟨W0,hW0⟩:∃W0,W0=w.alloc (.cells fc.toArray 28):=⟨_,rfl⟩;have hb0:Below w.heap.size w W0:=by rw [hW0];exact(Below.refl _ _).alloc (Dv _) _
 have HB1:Hid (W0.heap[w.heap.size]?=some (.cells fc.toArray 28 (0,0))):=ab gE;have HXV:Hid (RxV W0 S [.int .i64 rk,.string ⟨rch.toArray⟩,.bool rng,.slice ra rrs.length rcp,.int .i64 rlo,.int .i64 rhi,.bool rlz,.slice rka rks.length rkc] X):=ab (hx1▸hc.rv.later hb0);have HFS:Hid (SlS W0 S fa 5 fs.length (kT fs)):=ab (hc.fv.keep (Kept.all hb0));have HXS:=ab hx;have HP:=ab hp;have HFL:=ab hfs;have HTM:Hid (mP ⟨X,fs,fd,al⟩=(mayB X&&oW fs)):=ab rfl;subst hfce;have HW0:=ab hW0;rw [HTM.out];clear hv hc hx hx1 hW0 hfs hp HTM;have HRM:=ab (tN S X _ W0 HP.out HXS.out HXV.out);cases hm:mayB X with
 | false =>
  rw [hm] at HRM;clear hm;go_enter Tryz.func10,Tryz.ntmps10
  go_upto_region 1 with fail
  rw [←HW0.out];clear HW0;go_wp2_with (first
   | (refine jI rfl 25 (.tmp 3) rfl w.heap.size 0 rfl [.int .i64 rk,.string ⟨rch.toArray⟩,.bool rng,.slice ra rrs.length rcp,.int .i64 rlo,.int .i64 rhi,.bool rlz,.slice rka rks.length rkc] _ (jK (ds:=[.slice fa fs.length fcp,.bool fd,.bool al]) HB1.out) kG rfl gH ?_)
   | (go_at_call 22;refine HRM.out.mono ?_))
  exact db
 | true =>
  rw [hm] at HRM;clear hm;go_enter Tryz.func10,Tryz.ntmps10
  go_upto_region 1 with fail
  rw [←HW0.out];clear HW0;go_wp2_with (first
   | (refine jI rfl 25 (.tmp 3) rfl w.heap.size 0 rfl [.int .i64 rk,.string ⟨rch.toArray⟩,.bool rng,.slice ra rrs.length rcp,.int .i64 rlo,.int .i64 rhi,.bool rlz,.slice rka rks.length rkc] _ (jK (ds:=[.slice fa fs.length fcp,.bool fd,.bool al]) HB1.out) kG rfl gH ?_)
   | (go_at_call 22;refine HRM.out.mono ?_))
  first|rintro e w1 rfl hb1|rintro e w1 ⟨rfl,hb1⟩
  have hx1:=(hb1.block _ (jA HB1.out)).trans HB1.out;have z8:=jC hx1 8 rfl;have HM:=ab (zF fa fs.length fcp fs w1 (HFS.out.keep (Kept.all hb1)).sl HFL.out);clear hx1;go_wp2_with (go_at_call 23;refine HM.out.mono ?_)
  exact dY
theorem xK (S:Nat→Prop) (f:Tf) (hti:f.tiny) (hm:mP f=true) (fc:List Value) (w:World) (hv:TfV w S fc f) :
  Calls Tryz.prog 8 #[.agg fc.toArray] w fun e w'=>e=.returned (.tuple #[.string ⟨(oD f).toArray⟩,.int .i64 0])∧Below w.heap.size w w':=by
 obtain⟨rk,rch,rng,rrs,rlo,rhi,rlz,rks,ra,rcp,rka,rkc,fa,fcp,hc⟩:=hv.open_;obtain⟨W0,hW0⟩:∃W0,W0=w.alloc (.cells fc.toArray 28):=⟨_,rfl⟩;have hb0:Below w.heap.size w W0:=by rw [hW0];exact(Below.refl _ _).alloc (Dv _) _
 have HB1:Hid (W0.heap[w.heap.size]?=some (.cells fc.toArray 28 (0,0))):=ab gE;have HFL:=ab hv.len;have HMY:=ab (qy S f hti.1 fc W0 (hv.keep (Kept.all hb0)));rw [hm] at HMY;have HW0:=ab hW0;obtain⟨X,fs,fd,al⟩:=f;obtain⟨⟨hx,hp,hfs⟩,t2,t3,t4,t5⟩:=hti;have hx1:X=.mk rk rch rng rrs rlo rhi rlz rks:=hc.rx;have hfce:fc=[.int .i64 rk,.string ⟨rch.toArray⟩,.bool rng,.slice ra rrs.length rcp,.int .i64 rlo,.int .i64 rhi,.bool rlz,.slice rka rks.length rkc,.slice fa fs.length fcp,.bool fd,.bool al]:=hc.eq;have HXV:Hid (RxV W0 S [.int .i64 rk,.string ⟨rch.toArray⟩,.bool rng,.slice ra rrs.length rcp,.int .i64 rlo,.int .i64 rhi,.bool rlz,.slice rka rks.length rkc] X):=ab (hx1▸hc.rv.later hb0);have HFS:Hid (SlS W0 S fa 5 fs.length (kT fs)):=ab (hc.fv.keep (Kept.all hb0));have hm2:(mayB X&&oW fs)=true:=hm;rw [Dy] at hm2;have HMX:=ab hm2.1;have HMF:=ab hm2.2;have HPP:=ab hp;have HXS:=ab hx;have hTL:X.tell.length≤1000000:=t4;have hTF:(lQ fs).length≤1000000:=t5;have HTL:Hid (X.tell.length≤10000000):=ab fR;have HG:Hid (∀g∈fs,g.thn.length≤10000∧g.els.length≤10000):=ab t3;have HFN:Hid (fs.length≤1000):=ab t2;have HFO:Hid (oD ⟨X,fs,fd,al⟩=47::(X.tell++47::(lQ fs++47::((if al=true then [103] else [])++(if fd=true then [105] else []))))):=ab rfl;have HFCE:=ab hfce;clear hv hc hx hx1 hW0 hp hfs hm hm2 t2 t3 t4 t5 hfce;cases al with
 | true =>
  cases fd with
  | true =>
   go_enter Tryz.func8,Tryz.ntmps8
   go_upto_region 1 with fail
   rw [←HW0.out];clear HW0;go_wp2_with (first
    | (refine jI rfl 28 (.tmp 1) rfl w.heap.size 0 rfl fc _ (jK (ds:=[]) ie) j0 rfl gW ?_)
    | (go_at_call 10;refine HMY.out.mono ?_))
   first|rintro e w1 rfl hb1|rintro e w1 ⟨rfl,hb1⟩
   have HX1:=ab ((hb1.block _ (jA HB1.out)).trans HB1.out);have HRX:=ab (nS S X _ w1 HPP.out HXS.out (HXV.out.later hb1) HMX.out HTL.out);go_wp2_with (first
    | (refine jI rfl 25 (.tmp 13) rfl w.heap.size 0 rfl [.int .i64 rk,.string ⟨rch.toArray⟩,.bool rng,.slice ra rrs.length rcp,.int .i64 rlo,.int .i64 rhi,.bool rlz,.slice rka rks.length rkc] _ (jK (ds:=[.slice fa fs.length fcp,.bool true,.bool true]) (HFCE.out▸HX1.out)) kG rfl gH ?_)
    | (go_at_call 18;refine HRX.out.mono ?_))
   exact aH
  | false =>
   go_enter Tryz.func8,Tryz.ntmps8
   go_upto_region 1 with fail
   rw [←HW0.out];clear HW0;go_wp2_with (first
    | (refine jI rfl 28 (.tmp 1) rfl w.heap.size 0 rfl fc _ (jK (ds:=[]) ie) j0 rfl gW ?_)
    | (go_at_call 10;refine HMY.out.mono ?_))
   first|rintro e w1 rfl hb1|rintro e w1 ⟨rfl,hb1⟩
   have HX1:=ab ((hb1.block _ (jA HB1.out)).trans HB1.out);have HRX:=ab (nS S X _ w1 HPP.out HXS.out (HXV.out.later hb1) HMX.out HTL.out);go_wp2_with (first
    | (refine jI rfl 25 (.tmp 13) rfl w.heap.size 0 rfl [.int .i64 rk,.string ⟨rch.toArray⟩,.bool rng,.slice ra rrs.length rcp,.int .i64 rlo,.int .i64 rhi,.bool rlz,.slice rka rks.length rkc] _ (jK (ds:=[.slice fa fs.length fcp,.bool false,.bool true]) (HFCE.out▸HX1.out)) kG rfl gH ?_)
    | (go_at_call 18;refine HRX.out.mono ?_))
   exact aH
 | false =>
  cases fd with
  | true =>
   go_enter Tryz.func8,Tryz.ntmps8
   go_upto_region 1 with fail
   rw [←HW0.out];clear HW0;go_wp2_with (first
    | (refine jI rfl 28 (.tmp 1) rfl w.heap.size 0 rfl fc _ (jK (ds:=[]) ie) j0 rfl gW ?_)
    | (go_at_call 10;refine HMY.out.mono ?_))
   first|rintro e w1 rfl hb1|rintro e w1 ⟨rfl,hb1⟩
   have HX1:=ab ((hb1.block _ (jA HB1.out)).trans HB1.out);have HRX:=ab (nS S X _ w1 HPP.out HXS.out (HXV.out.later hb1) HMX.out HTL.out);go_wp2_with (first
    | (refine jI rfl 25 (.tmp 13) rfl w.heap.size 0 rfl [.int .i64 rk,.string ⟨rch.toArray⟩,.bool rng,.slice ra rrs.length rcp,.int .i64 rlo,.int .i64 rhi,.bool rlz,.slice rka rks.length rkc] _ (jK (ds:=[.slice fa fs.length fcp,.bool true,.bool false]) (HFCE.out▸HX1.out)) kG rfl gH ?_)
    | (go_at_call 18;refine HRX.out.mono ?_))
   exact aH
  | false =>
   go_enter Tryz.func8,Tryz.ntmps8
   go_upto_region 1 with fail
   rw [←HW0.out];clear HW0;go_wp2_with (first
    | (refine jI rfl 28 (.tmp 1) rfl w.heap.size 0 rfl fc _ (jK (ds:=[]) ie) j0 rfl gW ?_)
    | (go_at_call 10;refine HMY.out.mono ?_))
   first|rintro e w1 rfl hb1|rintro e w1 ⟨rfl,hb1⟩
   have HX1:=ab ((hb1.block _ (jA HB1.out)).trans HB1.out);have HRX:=ab (nS S X _ w1 HPP.out HXS.out (HXV.out.later hb1) HMX.out HTL.out);go_wp2_with (first
    | (refine jI rfl 25 (.tmp 13) rfl w.heap.size 0 rfl [.int .i64 rk,.string ⟨rch.toArray⟩,.bool rng,.slice ra rrs.length rcp,.int .i64 rlo,.int .i64 rhi,.bool rlz,.slice rka rks.length rkc] _ (jK (ds:=[.slice fa fs.length fcp,.bool false,.bool false]) (HFCE.out▸HX1.out)) kG rfl gH ?_)
    | (go_at_call 18;refine HRX.out.mono ?_))
   exact aH
open Go.ChangeShapes Go.WideShapes Go.RowKit
section
variable {H:Type} {enc:TypeId × Value→H} {w:World} {spare:Nat→Bool} {held:Bool}
end
theorem Al (S:Nat→Prop) (f:Tf) (hsm:f.small) (hm:mP f=false) (fc:List Value) (w:World) (hv:TfV w S fc f) :
  Calls Tryz.prog 8 #[.agg fc.toArray] w fun e w'=>e=.returned (.tuple #[.string ⟨[].toArray⟩,.int .i64 10])∧Below w.heap.size w w':=by
 obtain⟨W0,hW0⟩:∃W0,W0=w.alloc (.cells fc.toArray 28):=⟨_,rfl⟩;have hb0:Below w.heap.size w W0:=by rw [hW0];exact(Below.refl _ _).alloc (Dv _) _
 have HB1:Hid (W0.heap[w.heap.size]?=some (.cells fc.toArray 28 (0,0))):=ab gE;have HFL:=ab hv.len;have HMY:=ab (qy S f hsm fc W0 (hv.keep (Kept.all hb0)));rw [hm] at HMY;have HW0:=ab hW0;have HB0:=ab hb0;clear hv hW0 hb0 hm hsm;go_enter Tryz.func8,Tryz.ntmps8
 exact bU
end Go.Proofs.YtjggmmaojklmpaaGreatDoor
