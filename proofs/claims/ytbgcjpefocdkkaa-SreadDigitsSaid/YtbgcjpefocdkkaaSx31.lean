/- walk of gimletlaw21.SreadDigits: more digits, or none -/
import Derived.Test.YtbgcjpefocdkkaaSx1
import Derived.Test.YtbgcjpefocdkkaaSx2
import Derived.Test.YtbgcjpefocdkkaaSx3
import Derived.Test.YtbgcjpefocdkkaaSx4
import Derived.Test.YtbgcjpefocdkkaaSx5
import Derived.Test.YtbgcjpefocdkkaaSx6
import Derived.Test.YtbgcjpefocdkkaaSx7
import Derived.Test.YtbgcjpefocdkkaaSx8
import Derived.Test.YtbgcjpefocdkkaaSx9
import Derived.Test.YtbgcjpefocdkkaaSx10
import Derived.Test.YtbgcjpefocdkkaaSx11
import Derived.Test.YtbgcjpefocdkkaaSx12
import Derived.Lib.ItoaMem
import Derived.Test.YtbgcjpefocdkkaaSx30
import Derived.Test.YtbgcjpefocdkkaaSx13
import Derived.Test.YtbgcjpefocdkkaaSx14
import Derived.Test.YtbgcjpefocdkkaaSx15
import Derived.Test.YtbgcjpefocdkkaaSx16
import Derived.Test.YtbgcjpefocdkkaaSx17
import Derived.Test.YtbgcjpefocdkkaaSx18
import Derived.Test.YtbgcjpefocdkkaaSx19
import Derived.Test.YtbgcjpefocdkkaaSx20
import Derived.Test.YtbgcjpefocdkkaaSx21
import Derived.Test.YtbgcjpefocdkkaaSx22
import Derived.Test.YtbgcjpefocdkkaaSx23
import Derived.Test.YtbgcjpefocdkkaaSx24
import Derived.Test.YtbgcjpefocdkkaaSx25
import Derived.Test.YtbgcjpefocdkkaaSx26
import Derived.Test.YtbgcjpefocdkkaaSx27
import Derived.Test.YtbgcjpefocdkkaaSx28
import Derived.Test.YtbgcjpefocdkkaaSx29
set_option maxRecDepth 100000
namespace Go.Proofs.Ytbgcjpefocdkkaa
open Go.RowKit
set_option maxHeartbeats 4000000 in
theorem SreadDigits_nn (z1 z2:Int) (s:Str) (w:World) (hs:s.length≤30) (hnd:NoDig s) (k:Nat) (hk:low z1 8=(k:Int)) (h5:5≤k) (h7:k≤7):Calls Try.prog 8 #[.int .i64 z1,.int .i64 z2,.bool false,.string ⟨(s).toArray⟩] w fun e w'=>e=.returned (.bool true)∧Below w.heap.size w w':=by
 have hsl:s.length≤30:=hs;have HL:=Lib.hid (fun w=>hk▸Low_any z1 8 w (by omega) (by omega));have hcase:s.length=0∨∃c:UInt8,0<s.length∧(∀hi:0<s.length,s[0]'hi=c)∧¬(48≤c.toNat∧c.toNat≤57):=by
  cases s with
  | nil=>exact .inl rfl
  | cons c t=>exact .inr ⟨c,by simp,fun _=>rfl,hnd c t rfl⟩
 obtain⟨iN,hiN⟩:=info_parts snip_info;have HND:=Lib.hid hnd;obtain⟨T,hT⟩:∃T,quot three s=T:=⟨_,rfl⟩;have hql:=quot_len three s;have HG:=Lib.hid (fun w=>guard21 s three w (by omega) (by decide) (by decide));rw [hT] at hql HG;unfold three at HG;have HT:=Lib.hid hT;have HCS:=Lib.hid hcase;have g0:decide ((30:Int)<(s.length:Int))=false:=decide_eq_false (by omega);clear hnd hcase hT hk;go_enter Try.func8,Try.ntmps8
 go_upto_region 1 with fail
 go_cut [37] from 20 to 37 (fun c wx=>c=.bool false∧wx=w)
 case first =>
  rcases HCS.out with hz|⟨c,hp,h3,hc⟩
  ·have g1:decide ((0:Int)<(s.length:Int))=false:=decide_eq_false (by omega)
   go_wp2_with fail
   go_meet
   exact⟨rfl,rfl⟩
  ·have g1:decide ((0:Int)<(s.length:Int))=true:=decide_eq_true (by omega)
   by_cases hc1:48≤c.toNat
   ·have g3:decide ((48:Int)≤(c.toNat:Int))=true:=decide_eq_true (by omega)
    have g2:decide ((c.toNat:Int)≤57)=false:=decide_eq_false (by omega);clear hc hc1;go_wp2_with fail
    go_meet
    exact⟨rfl,rfl⟩
   ·have g3:decide ((48:Int)≤(c.toNat:Int))=false:=decide_eq_false (by omega)
    clear hc hc1;go_wp2_with fail
    go_meet
    exact⟨rfl,rfl⟩
 case rest =>
  obtain⟨rfl,hwc⟩:=hcut;replace hwc:=hwc.symm;subst hwc;clear HCS;go_wp2_with (go_at_call 9;refine(HL.out _).mono ?_)
  first|rintro e wl rfl rfl|rintro e wl ⟨rfl,rfl⟩
  go_wp2
  go_loopw [10,11,12] (fun d n q wr=>DjRel k w d n q wr) (fun _ _ q _=>k-(intOf q).toNat)
  case atStart=>exact⟨0,[],by omega,rfl,Lib.hid (fun c hc=>by simp at hc),rfl,rfl,rfl,Lib.hid (by decide),Below.refl _ _⟩
  case round =>
   obtain⟨i,ds,hi,hl,HDG,rfl,rfl,rfl,HV,hb⟩:=hrel;have hv7:valD 0 ds≤9999999:=by
    have h1:=HV.out;have h2:10 ^ i≤10 ^ 7:=Nat.pow_le_pow_right (by omega) (by omega);omega
   by_cases hin:i<k
   ·clear HG HND HT
    go_wp2_with (go_at_call 9;refine(Low10 _ _).mono ?_)
    rintro e wl ⟨c,hc,rfl,rfl⟩;go_wp2_with (go_at_call 14;refine(Digits_any c _ (by omega)).mono ?_)
    rintro e w3 ⟨rfl,hb3⟩;obtain⟨n1,n2,n3,n4⟩:=dg_next HDG.out hl HV.out hc;have N1:=Lib.hid n1;have N2:=Lib.hid n2;have N3:=Lib.hid n3;have N4:=Lib.hid n4;have hdl:(Lib.decDigits c).length≤1:=by rw [List.length_append] at n1;omega
    clear n1 n2 n3 n4;go_wp2
    go_roundw
    case rel=>exact⟨i+1,ds++Lib.decDigits c,by omega,N1.out,N2,rfl,by rw [N3.out];congr 1;omega,by go_num,N4,bel2 hb hb3⟩
    case measure=>simp [intOf];omega
   ·obtain rfl:i=k:=by omega
    have hdg:=HDG.out;have hnd:=HND.out;clear hin HND HDG HV;have gk1:decide ((1:Int)≤(i:Int))=true:=decide_eq_true (by omega);have gk4:decide ((i:Int)≤4)=false:=decide_eq_false (by omega);have gk0:((i:Int)==0)=false:=by rw [beq_eq_false_iff_ne];omega
    have hsp:=no_sp (h:=ds) (part_bare_no hdg (by omega) _) (dig_ok hdg);have hq:=no_q (h:=ds) (b:=s) (part_bare_no hdg (by omega) _) (dig_ok hdg);rw [HT.out] at hq;have q1:(36::(ds++[32]):Str)=(36::(ds++[32])):=by simp
    have q2:(36::(ds++s):Str)=(36::(ds++s)):=by simp
    rw [q1] at hsp;rw [q2] at hq;have H1:=Lib.hid (sreadH (snipM_ok hsp (by simp;omega) (by simp [Sn.deepL,Sn.deep,textS])) (by simp;omega));have H2:=Lib.hid (sreadH (snipM_ok hq (by simp;omega) (by simp [Sn.deepL,Sn.deep,textS])) (by simp;omega));have HS1:=Lib.hid (nsame (ks:=[textS (36::(ds++[32]))]) ⟨textS_small (by simp;omega),trivial⟩ (by simp));have HS2:=Lib.hid (nsame (ks:=[textS (36::(ds++s))]) ⟨textS_small (by simp;omega),trivial⟩ (by simp));clear q1 q2 hsp hq hdg hnd HT;try clear hnil
    go_wp2_with (go_at_call 10;refine(H1.out _ _ (by simp)).mono ?_)
    rintro e w2 ⟨a2,c2,rfl,hb2,hs2⟩;go_wp2_with (go_at_call 13;refine(HG.out _).mono ?_)
    first|rintro e w3 rfl hb3|rintro e w3 ⟨rfl,hb3⟩
    go_wp2_with (go_at_call 10;refine(H2.out _ _ (by simp)).mono ?_)
    rintro e w4 ⟨a4,c4,rfl,hb4,hs4⟩;have hbw4:=bel2 (bel2 (bel2 hb hb2) hb3) hb4;have HA:=Lib.hid ((hs2.later hb3).later hb4);have HB:=Lib.hid hs4;clear hb hb2 hb3 hb4 hs2 hs4;have hbP:Below w4.heap.size w4 (w4.alloc (.cells #[.int .i64 0,.string ⟨((36::(ds++[32]))).toArray⟩,.int .i64 0,.bool false,.bool false,.int .i64 0,.string ⟨#[]⟩,.bool false,.slice none 0 0,.int .i64 0,.int .i64 0,.bool false,.slice none 0 0,.slice none 0 0,.bool false,.bool false,.slice none 0 0,.slice none 0 0] 36)):=(Below.refl _ _).alloc (Nat.le_refl _) _;have HCP:=Lib.hid (HS1.out _ (fun _=>True) a2 _ c2 1 _ (HA.out.later hbP) (snsl_one (cc:=[.int .i64 0,.string ⟨((36::(ds++[32]))).toArray⟩,.int .i64 0,.bool false,.bool false,.int .i64 0,.string ⟨#[]⟩,.bool false,.slice none 0 0,.int .i64 0,.int .i64 0,.bool false,.slice none 0 0,.slice none 0 0,.bool false,.bool false,.slice none 0 0,.slice none 0 0]) (textS_v _ _ _) (heap_alloc_new w4 (.cells #[.int .i64 0,.string ⟨((36::(ds++[32]))).toArray⟩,.int .i64 0,.bool false,.bool false,.int .i64 0,.string ⟨#[]⟩,.bool false,.slice none 0 0,.int .i64 0,.int .i64 0,.bool false,.slice none 0 0,.slice none 0 0,.bool false,.bool false,.slice none 0 0,.slice none 0 0] 36))));go_wp2_with (go_at_call 15;refine HCP.out.mono ?_)
    first|rintro e w6 rfl hxP|rintro e w6 ⟨rfl,hxP⟩
    have HB2:=Lib.hid ((HB.out.later hbP).later hxP);have hbw6:=bel2 (bel2 hbw4 hbP) hxP;clear HCP hbP hxP;have hbQ:Below w6.heap.size w6 (w6.alloc (.cells #[.int .i64 0,.string ⟨((36::(ds++s))).toArray⟩,.int .i64 0,.bool false,.bool false,.int .i64 0,.string ⟨#[]⟩,.bool false,.slice none 0 0,.int .i64 0,.int .i64 0,.bool false,.slice none 0 0,.slice none 0 0,.bool false,.bool false,.slice none 0 0,.slice none 0 0] 36)):=(Below.refl _ _).alloc (Nat.le_refl _) _;have HCQ:=Lib.hid (HS2.out _ (fun _=>True) a4 _ c4 1 _ (HB2.out.later hbQ) (snsl_one (cc:=[.int .i64 0,.string ⟨((36::(ds++s))).toArray⟩,.int .i64 0,.bool false,.bool false,.int .i64 0,.string ⟨#[]⟩,.bool false,.slice none 0 0,.int .i64 0,.int .i64 0,.bool false,.slice none 0 0,.slice none 0 0,.bool false,.bool false,.slice none 0 0,.slice none 0 0]) (textS_v _ _ _) (heap_alloc_new w6 (.cells #[.int .i64 0,.string ⟨((36::(ds++s))).toArray⟩,.int .i64 0,.bool false,.bool false,.int .i64 0,.string ⟨#[]⟩,.bool false,.slice none 0 0,.int .i64 0,.int .i64 0,.bool false,.slice none 0 0,.slice none 0 0,.bool false,.bool false,.slice none 0 0,.slice none 0 0] 36))));go_wp2_with (go_at_call 15;refine HCQ.out.mono ?_)
    first|rintro e w8 rfl hxQ|rintro e w8 ⟨rfl,hxQ⟩
    have hbw8:=bel2 (bel2 hbw6 hbQ) hxQ;go_wp2_with (go_at_call 11;refine(awake21 _).mono ?_;rintro e w9 ⟨rfl,hb9⟩)
    go_ret
    exact⟨rfl,bel2 hbw8 hb9⟩
set_option maxHeartbeats 4000000 in
theorem SreadDigits_nb (z1 z2:Int) (s:Str) (w:World) (hs:s.length≤30) (hnd:NoDig s) (k:Nat) (hk:low z1 8=(k:Int)) (h5:5≤k) (h7:k≤7):Calls Try.prog 8 #[.int .i64 z1,.int .i64 z2,.bool true,.string ⟨(s).toArray⟩] w fun e w'=>e=.returned (.bool true)∧Below w.heap.size w w':=by
 have hsl:s.length≤30:=hs;have HL:=Lib.hid (fun w=>hk▸Low_any z1 8 w (by omega) (by omega));have hcase:s.length=0∨∃c:UInt8,0<s.length∧(∀hi:0<s.length,s[0]'hi=c)∧¬(48≤c.toNat∧c.toNat≤57):=by
  cases s with
  | nil=>exact .inl rfl
  | cons c t=>exact .inr ⟨c,by simp,fun _=>rfl,hnd c t rfl⟩
 obtain⟨iN,hiN⟩:=info_parts snip_info;have HND:=Lib.hid hnd;obtain⟨T,hT⟩:∃T,quot three s=T:=⟨_,rfl⟩;have hql:=quot_len three s;have HG:=Lib.hid (fun w=>guard21 s three w (by omega) (by decide) (by decide));rw [hT] at hql HG;unfold three at HG;have HT:=Lib.hid hT;have HCS:=Lib.hid hcase;have g0:decide ((30:Int)<(s.length:Int))=false:=decide_eq_false (by omega);clear hnd hcase hT hk;go_enter Try.func8,Try.ntmps8
 go_upto_region 1 with fail
 go_cut [37] from 20 to 37 (fun c wx=>c=.bool false∧wx=w)
 case first =>
  rcases HCS.out with hz|⟨c,hp,h3,hc⟩
  ·have g1:decide ((0:Int)<(s.length:Int))=false:=decide_eq_false (by omega)
   go_wp2_with fail
   go_meet
   exact⟨rfl,rfl⟩
  ·have g1:decide ((0:Int)<(s.length:Int))=true:=decide_eq_true (by omega)
   by_cases hc1:48≤c.toNat
   ·have g3:decide ((48:Int)≤(c.toNat:Int))=true:=decide_eq_true (by omega)
    have g2:decide ((c.toNat:Int)≤57)=false:=decide_eq_false (by omega);clear hc hc1;go_wp2_with fail
    go_meet
    exact⟨rfl,rfl⟩
   ·have g3:decide ((48:Int)≤(c.toNat:Int))=false:=decide_eq_false (by omega)
    clear hc hc1;go_wp2_with fail
    go_meet
    exact⟨rfl,rfl⟩
 case rest =>
  obtain⟨rfl,hwc⟩:=hcut;replace hwc:=hwc.symm;subst hwc;clear HCS;go_wp2_with (go_at_call 9;refine(HL.out _).mono ?_)
  first|rintro e wl rfl rfl|rintro e wl ⟨rfl,rfl⟩
  go_wp2
  go_loopw [10,11,12] (fun d n q wr=>DjRel k w d n q wr) (fun _ _ q _=>k-(intOf q).toNat)
  case atStart=>exact⟨0,[],by omega,rfl,Lib.hid (fun c hc=>by simp at hc),rfl,rfl,rfl,Lib.hid (by decide),Below.refl _ _⟩
  case round =>
   obtain⟨i,ds,hi,hl,HDG,rfl,rfl,rfl,HV,hb⟩:=hrel;have hv7:valD 0 ds≤9999999:=by
    have h1:=HV.out;have h2:10 ^ i≤10 ^ 7:=Nat.pow_le_pow_right (by omega) (by omega);omega
   by_cases hin:i<k
   ·clear HG HND HT
    go_wp2_with (go_at_call 9;refine(Low10 _ _).mono ?_)
    rintro e wl ⟨c,hc,rfl,rfl⟩;go_wp2_with (go_at_call 14;refine(Digits_any c _ (by omega)).mono ?_)
    rintro e w3 ⟨rfl,hb3⟩;obtain⟨n1,n2,n3,n4⟩:=dg_next HDG.out hl HV.out hc;have N1:=Lib.hid n1;have N2:=Lib.hid n2;have N3:=Lib.hid n3;have N4:=Lib.hid n4;have hdl:(Lib.decDigits c).length≤1:=by rw [List.length_append] at n1;omega
    clear n1 n2 n3 n4;go_wp2
    go_roundw
    case rel=>exact⟨i+1,ds++Lib.decDigits c,by omega,N1.out,N2,rfl,by rw [N3.out];congr 1;omega,by go_num,N4,bel2 hb hb3⟩
    case measure=>simp [intOf];omega
   ·obtain rfl:i=k:=by omega
    have hdg:=HDG.out;have hnd:=HND.out;clear hin HND HDG HV;have gk1:decide ((1:Int)≤(i:Int))=true:=decide_eq_true (by omega);have gk4:decide ((i:Int)≤4)=false:=decide_eq_false (by omega);have gk0:((i:Int)==0)=false:=by rw [beq_eq_false_iff_ne];omega
    have hsp:=no_sp (h:=(123::(ds++[125]))) (part_in_no hdg (.inr (by omega)) _) (in_ok hdg);have hq:=no_q (h:=(123::(ds++[125]))) (b:=s) (part_in_no hdg (.inr (by omega)) _) (in_ok hdg);rw [HT.out] at hq;have q1:(36::((123::(ds++[125]))++[32]):Str)=(36::123::(ds++[125,32])):=by simp
    have q2:(36::((123::(ds++[125]))++s):Str)=(36::123::(ds++125::s)):=by simp
    rw [q1] at hsp;rw [q2] at hq;have H1:=Lib.hid (sreadH (snipM_ok hsp (by simp;omega) (by simp [Sn.deepL,Sn.deep,textS])) (by simp;omega));have H2:=Lib.hid (sreadH (snipM_ok hq (by simp;omega) (by simp [Sn.deepL,Sn.deep,textS])) (by simp;omega));have HS1:=Lib.hid (nsame (ks:=[textS (36::123::(ds++[125,32]))]) ⟨textS_small (by simp;omega),trivial⟩ (by simp));have HS2:=Lib.hid (nsame (ks:=[textS (36::123::(ds++125::s))]) ⟨textS_small (by simp;omega),trivial⟩ (by simp));clear q1 q2 hsp hq hdg hnd HT;try clear hnil
    go_wp2_with (go_at_call 10;refine(H1.out _ _ (by simp)).mono ?_)
    rintro e w2 ⟨a2,c2,rfl,hb2,hs2⟩;go_wp2_with (go_at_call 13;refine(HG.out _).mono ?_)
    first|rintro e w3 rfl hb3|rintro e w3 ⟨rfl,hb3⟩
    go_wp2_with (go_at_call 10;refine(H2.out _ _ (by simp)).mono ?_)
    rintro e w4 ⟨a4,c4,rfl,hb4,hs4⟩;have hbw4:=bel2 (bel2 (bel2 hb hb2) hb3) hb4;have HA:=Lib.hid ((hs2.later hb3).later hb4);have HB:=Lib.hid hs4;clear hb hb2 hb3 hb4 hs2 hs4;have hbP:Below w4.heap.size w4 (w4.alloc (.cells #[.int .i64 0,.string ⟨((36::123::(ds++[125,32]))).toArray⟩,.int .i64 0,.bool false,.bool false,.int .i64 0,.string ⟨#[]⟩,.bool false,.slice none 0 0,.int .i64 0,.int .i64 0,.bool false,.slice none 0 0,.slice none 0 0,.bool false,.bool false,.slice none 0 0,.slice none 0 0] 36)):=(Below.refl _ _).alloc (Nat.le_refl _) _;have HCP:=Lib.hid (HS1.out _ (fun _=>True) a2 _ c2 1 _ (HA.out.later hbP) (snsl_one (cc:=[.int .i64 0,.string ⟨((36::123::(ds++[125,32]))).toArray⟩,.int .i64 0,.bool false,.bool false,.int .i64 0,.string ⟨#[]⟩,.bool false,.slice none 0 0,.int .i64 0,.int .i64 0,.bool false,.slice none 0 0,.slice none 0 0,.bool false,.bool false,.slice none 0 0,.slice none 0 0]) (textS_v _ _ _) (heap_alloc_new w4 (.cells #[.int .i64 0,.string ⟨((36::123::(ds++[125,32]))).toArray⟩,.int .i64 0,.bool false,.bool false,.int .i64 0,.string ⟨#[]⟩,.bool false,.slice none 0 0,.int .i64 0,.int .i64 0,.bool false,.slice none 0 0,.slice none 0 0,.bool false,.bool false,.slice none 0 0,.slice none 0 0] 36))));go_wp2_with (go_at_call 15;refine HCP.out.mono ?_)
    first|rintro e w6 rfl hxP|rintro e w6 ⟨rfl,hxP⟩
    have HB2:=Lib.hid ((HB.out.later hbP).later hxP);have hbw6:=bel2 (bel2 hbw4 hbP) hxP;clear HCP hbP hxP;have hbQ:Below w6.heap.size w6 (w6.alloc (.cells #[.int .i64 0,.string ⟨((36::123::(ds++125::s))).toArray⟩,.int .i64 0,.bool false,.bool false,.int .i64 0,.string ⟨#[]⟩,.bool false,.slice none 0 0,.int .i64 0,.int .i64 0,.bool false,.slice none 0 0,.slice none 0 0,.bool false,.bool false,.slice none 0 0,.slice none 0 0] 36)):=(Below.refl _ _).alloc (Nat.le_refl _) _;have HCQ:=Lib.hid (HS2.out _ (fun _=>True) a4 _ c4 1 _ (HB2.out.later hbQ) (snsl_one (cc:=[.int .i64 0,.string ⟨((36::123::(ds++125::s))).toArray⟩,.int .i64 0,.bool false,.bool false,.int .i64 0,.string ⟨#[]⟩,.bool false,.slice none 0 0,.int .i64 0,.int .i64 0,.bool false,.slice none 0 0,.slice none 0 0,.bool false,.bool false,.slice none 0 0,.slice none 0 0]) (textS_v _ _ _) (heap_alloc_new w6 (.cells #[.int .i64 0,.string ⟨((36::123::(ds++125::s))).toArray⟩,.int .i64 0,.bool false,.bool false,.int .i64 0,.string ⟨#[]⟩,.bool false,.slice none 0 0,.int .i64 0,.int .i64 0,.bool false,.slice none 0 0,.slice none 0 0,.bool false,.bool false,.slice none 0 0,.slice none 0 0] 36))));go_wp2_with (go_at_call 15;refine HCQ.out.mono ?_)
    first|rintro e w8 rfl hxQ|rintro e w8 ⟨rfl,hxQ⟩
    have hbw8:=bel2 (bel2 hbw6 hbQ) hxQ;go_wp2_with (go_at_call 11;refine(awake21 _).mono ?_;rintro e w9 ⟨rfl,hb9⟩)
    go_ret
    exact⟨rfl,bel2 hbw8 hb9⟩
set_option maxHeartbeats 4000000 in
theorem SreadDigits_zb (z1 z2:Int) (s:Str) (w:World) (hs:s.length≤30) (hnd:NoDig s) (k:Nat) (hk:low z1 8=(k:Int)) (h7:k<1):Calls Try.prog 8 #[.int .i64 z1,.int .i64 z2,.bool true,.string ⟨(s).toArray⟩] w fun e w'=>e=.returned (.bool true)∧Below w.heap.size w w':=by
 have hsl:s.length≤30:=hs;have HL:=Lib.hid (fun w=>hk▸Low_any z1 8 w (by omega) (by omega));have hcase:s.length=0∨∃c:UInt8,0<s.length∧(∀hi:0<s.length,s[0]'hi=c)∧¬(48≤c.toNat∧c.toNat≤57):=by
  cases s with
  | nil=>exact .inl rfl
  | cons c t=>exact .inr ⟨c,by simp,fun _=>rfl,hnd c t rfl⟩
 obtain⟨iN,hiN⟩:=info_parts snip_info;have HND:=Lib.hid hnd;obtain⟨T,hT⟩:∃T,quot three s=T:=⟨_,rfl⟩;have hql:=quot_len three s;have HG:=Lib.hid (fun w=>guard21 s three w (by omega) (by decide) (by decide));rw [hT] at hql HG;unfold three at HG;have HT:=Lib.hid hT;have HCS:=Lib.hid hcase;have g0:decide ((30:Int)<(s.length:Int))=false:=decide_eq_false (by omega);clear hnd hcase hT hk;go_enter Try.func8,Try.ntmps8
 go_upto_region 1 with fail
 go_cut [37] from 20 to 37 (fun c wx=>c=.bool false∧wx=w)
 case first =>
  rcases HCS.out with hz|⟨c,hp,h3,hc⟩
  ·have g1:decide ((0:Int)<(s.length:Int))=false:=decide_eq_false (by omega)
   go_wp2_with fail
   go_meet
   exact⟨rfl,rfl⟩
  ·have g1:decide ((0:Int)<(s.length:Int))=true:=decide_eq_true (by omega)
   by_cases hc1:48≤c.toNat
   ·have g3:decide ((48:Int)≤(c.toNat:Int))=true:=decide_eq_true (by omega)
    have g2:decide ((c.toNat:Int)≤57)=false:=decide_eq_false (by omega);clear hc hc1;go_wp2_with fail
    go_meet
    exact⟨rfl,rfl⟩
   ·have g3:decide ((48:Int)≤(c.toNat:Int))=false:=decide_eq_false (by omega)
    clear hc hc1;go_wp2_with fail
    go_meet
    exact⟨rfl,rfl⟩
 case rest =>
  obtain⟨rfl,hwc⟩:=hcut;replace hwc:=hwc.symm;subst hwc;clear HCS;go_wp2_with (go_at_call 9;refine(HL.out _).mono ?_)
  first|rintro e wl rfl rfl|rintro e wl ⟨rfl,rfl⟩
  go_wp2
  go_loopw [10,11,12] (fun d n q wr=>DjRel k w d n q wr) (fun _ _ q _=>k-(intOf q).toNat)
  case atStart=>exact⟨0,[],by omega,rfl,Lib.hid (fun c hc=>by simp at hc),rfl,rfl,rfl,Lib.hid (by decide),Below.refl _ _⟩
  case round =>
   obtain⟨i,ds,hi,hl,HDG,rfl,rfl,rfl,HV,hb⟩:=hrel;have hv7:valD 0 ds≤9999999:=by
    have h1:=HV.out;have h2:10 ^ i≤10 ^ 7:=Nat.pow_le_pow_right (by omega) (by omega);omega
   by_cases hin:i<k
   ·exfalso;omega
   ·obtain rfl:i=k:=by omega
    have hdg:=HDG.out;have hnd:=HND.out;clear hin HND HDG HV;have gk1:decide ((1:Int)≤(i:Int))=false:=decide_eq_false (by omega);have gk0:((i:Int)==0)=true:=by rw [beq_iff_eq];omega
    have hnil:ds=[]:=List.eq_nil_of_length_eq_zero (by omega);have hsp:=no_sp (h:=(123::(ds++[125]))) (part_in_no hdg (.inl hnil) _) (in_ok hdg);have hq:=no_q (h:=(123::(ds++[125]))) (b:=s) (part_in_no hdg (.inl hnil) _) (in_ok hdg);rw [HT.out] at hq;have q1:(36::((123::(ds++[125]))++[32]):Str)=(36::123::(ds++[125,32])):=by simp
    have q2:(36::((123::(ds++[125]))++s):Str)=(36::123::(ds++125::s)):=by simp
    rw [q1] at hsp;rw [q2] at hq;have H1:=Lib.hid (sreadH (snipM_ok hsp (by simp;omega) (by simp [Sn.deepL,Sn.deep,textS])) (by simp;omega));have H2:=Lib.hid (sreadH (snipM_ok hq (by simp;omega) (by simp [Sn.deepL,Sn.deep,textS])) (by simp;omega));have HS1:=Lib.hid (nsame (ks:=[textS (36::123::(ds++[125,32]))]) ⟨textS_small (by simp;omega),trivial⟩ (by simp));have HS2:=Lib.hid (nsame (ks:=[textS (36::123::(ds++125::s))]) ⟨textS_small (by simp;omega),trivial⟩ (by simp));clear q1 q2 hsp hq hdg hnd HT;try clear hnil
    go_wp2_with (go_at_call 10;refine(H1.out _ _ (by simp)).mono ?_)
    rintro e w2 ⟨a2,c2,rfl,hb2,hs2⟩;go_wp2_with (go_at_call 13;refine(HG.out _).mono ?_)
    first|rintro e w3 rfl hb3|rintro e w3 ⟨rfl,hb3⟩
    go_wp2_with (go_at_call 10;refine(H2.out _ _ (by simp)).mono ?_)
    rintro e w4 ⟨a4,c4,rfl,hb4,hs4⟩;have hbw4:=bel2 (bel2 (bel2 hb hb2) hb3) hb4;have HA:=Lib.hid ((hs2.later hb3).later hb4);have HB:=Lib.hid hs4;clear hb hb2 hb3 hb4 hs2 hs4;have hbP:Below w4.heap.size w4 (w4.alloc (.cells #[.int .i64 0,.string ⟨((36::123::(ds++[125,32]))).toArray⟩,.int .i64 0,.bool false,.bool false,.int .i64 0,.string ⟨#[]⟩,.bool false,.slice none 0 0,.int .i64 0,.int .i64 0,.bool false,.slice none 0 0,.slice none 0 0,.bool false,.bool false,.slice none 0 0,.slice none 0 0] 36)):=(Below.refl _ _).alloc (Nat.le_refl _) _;have HCP:=Lib.hid (HS1.out _ (fun _=>True) a2 _ c2 1 _ (HA.out.later hbP) (snsl_one (cc:=[.int .i64 0,.string ⟨((36::123::(ds++[125,32]))).toArray⟩,.int .i64 0,.bool false,.bool false,.int .i64 0,.string ⟨#[]⟩,.bool false,.slice none 0 0,.int .i64 0,.int .i64 0,.bool false,.slice none 0 0,.slice none 0 0,.bool false,.bool false,.slice none 0 0,.slice none 0 0]) (textS_v _ _ _) (heap_alloc_new w4 (.cells #[.int .i64 0,.string ⟨((36::123::(ds++[125,32]))).toArray⟩,.int .i64 0,.bool false,.bool false,.int .i64 0,.string ⟨#[]⟩,.bool false,.slice none 0 0,.int .i64 0,.int .i64 0,.bool false,.slice none 0 0,.slice none 0 0,.bool false,.bool false,.slice none 0 0,.slice none 0 0] 36))));go_wp2_with (go_at_call 15;refine HCP.out.mono ?_)
    first|rintro e w6 rfl hxP|rintro e w6 ⟨rfl,hxP⟩
    have HB2:=Lib.hid ((HB.out.later hbP).later hxP);have hbw6:=bel2 (bel2 hbw4 hbP) hxP;clear HCP hbP hxP;have hbQ:Below w6.heap.size w6 (w6.alloc (.cells #[.int .i64 0,.string ⟨((36::123::(ds++125::s))).toArray⟩,.int .i64 0,.bool false,.bool false,.int .i64 0,.string ⟨#[]⟩,.bool false,.slice none 0 0,.int .i64 0,.int .i64 0,.bool false,.slice none 0 0,.slice none 0 0,.bool false,.bool false,.slice none 0 0,.slice none 0 0] 36)):=(Below.refl _ _).alloc (Nat.le_refl _) _;have HCQ:=Lib.hid (HS2.out _ (fun _=>True) a4 _ c4 1 _ (HB2.out.later hbQ) (snsl_one (cc:=[.int .i64 0,.string ⟨((36::123::(ds++125::s))).toArray⟩,.int .i64 0,.bool false,.bool false,.int .i64 0,.string ⟨#[]⟩,.bool false,.slice none 0 0,.int .i64 0,.int .i64 0,.bool false,.slice none 0 0,.slice none 0 0,.bool false,.bool false,.slice none 0 0,.slice none 0 0]) (textS_v _ _ _) (heap_alloc_new w6 (.cells #[.int .i64 0,.string ⟨((36::123::(ds++125::s))).toArray⟩,.int .i64 0,.bool false,.bool false,.int .i64 0,.string ⟨#[]⟩,.bool false,.slice none 0 0,.int .i64 0,.int .i64 0,.bool false,.slice none 0 0,.slice none 0 0,.bool false,.bool false,.slice none 0 0,.slice none 0 0] 36))));go_wp2_with (go_at_call 15;refine HCQ.out.mono ?_)
    first|rintro e w8 rfl hxQ|rintro e w8 ⟨rfl,hxQ⟩
    have hbw8:=bel2 (bel2 hbw6 hbQ) hxQ;go_wp2_with (go_at_call 11;refine(awake21 _).mono ?_;rintro e w9 ⟨rfl,hb9⟩)
    go_ret
    exact⟨rfl,bel2 hbw8 hb9⟩
theorem cnt_quot:∀s:Str,List.count 123 (quot three s)≤s.length
 | []=>by simp [quot]
 | c::r=>by
  have:=cnt_quot r
  simp only [quot,List.count_append,List.length_cons];split
  ·have h1:List.count 123 [92,c]≤1:=by rw [List.count_cons_of_ne (by decide)];exact List.count_le_length
   omega
  ·have h1:List.count 123 [c]≤1:=List.count_le_length
   omega
theorem part_zero {ds:Str} (h:ds=[]):partS (ds++[32])=none:=by subst h;exact part_sp []
set_option maxHeartbeats 4000000 in
theorem SreadDigits_zn (z1 z2:Int) (s:Str) (w:World) (hs:s.length≤30) (hnd:NoDig s) (k:Nat) (hk:low z1 8=(k:Int)) (h7:k<1):Calls Try.prog 8 #[.int .i64 z1,.int .i64 z2,.bool false,.string ⟨(s).toArray⟩] w fun e w'=>e=.returned (.bool true)∧Below w.heap.size w w':=by
 have hsl:s.length≤30:=hs;have HL:=Lib.hid (fun w=>hk▸Low_any z1 8 w (by omega) (by omega));have hcase:s.length=0∨∃c:UInt8,0<s.length∧(∀hi:0<s.length,s[0]'hi=c)∧¬(48≤c.toNat∧c.toNat≤57):=by
  cases s with
  | nil=>exact .inl rfl
  | cons c t=>exact .inr ⟨c,by simp,fun _=>rfl,hnd c t rfl⟩
 obtain⟨iN,hiN⟩:=info_parts snip_info;have HND:=Lib.hid hnd;obtain⟨T,hT⟩:∃T,quot three s=T:=⟨_,rfl⟩;have hql:=quot_len three s;have HG:=Lib.hid (fun w=>guard21 s three w (by omega) (by decide) (by decide));rw [hT] at hql HG;unfold three at HG;have HT:=Lib.hid hT;have HCS:=Lib.hid hcase;have g0:decide ((30:Int)<(s.length:Int))=false:=decide_eq_false (by omega);clear hnd hcase hT hk;go_enter Try.func8,Try.ntmps8
 go_upto_region 1 with fail
 go_cut [37] from 20 to 37 (fun c wx=>c=.bool false∧wx=w)
 case first =>
  rcases HCS.out with hz|⟨c,hp,h3,hc⟩
  ·have g1:decide ((0:Int)<(s.length:Int))=false:=decide_eq_false (by omega)
   go_wp2_with fail
   go_meet
   exact⟨rfl,rfl⟩
  ·have g1:decide ((0:Int)<(s.length:Int))=true:=decide_eq_true (by omega)
   by_cases hc1:48≤c.toNat
   ·have g3:decide ((48:Int)≤(c.toNat:Int))=true:=decide_eq_true (by omega)
    have g2:decide ((c.toNat:Int)≤57)=false:=decide_eq_false (by omega);clear hc hc1;go_wp2_with fail
    go_meet
    exact⟨rfl,rfl⟩
   ·have g3:decide ((48:Int)≤(c.toNat:Int))=false:=decide_eq_false (by omega)
    clear hc hc1;go_wp2_with fail
    go_meet
    exact⟨rfl,rfl⟩
 case rest =>
  obtain⟨rfl,hwc⟩:=hcut;replace hwc:=hwc.symm;subst hwc;clear HCS;go_wp2_with (go_at_call 9;refine(HL.out _).mono ?_)
  first|rintro e wl rfl rfl|rintro e wl ⟨rfl,rfl⟩
  go_wp2
  go_loopw [10,11,12] (fun d n q wr=>DjRel k w d n q wr) (fun _ _ q _=>k-(intOf q).toNat)
  case atStart=>exact⟨0,[],by omega,rfl,Lib.hid (fun c hc=>by simp at hc),rfl,rfl,rfl,Lib.hid (by decide),Below.refl _ _⟩
  case round =>
   obtain⟨i,ds,hi,hl,HDG,rfl,rfl,rfl,HV,hb⟩:=hrel;have hv7:valD 0 ds≤9999999:=by
    have h1:=HV.out;have h2:10 ^ i≤10 ^ 7:=Nat.pow_le_pow_right (by omega) (by omega);omega
   by_cases hin:i<k
   ·exfalso;omega
   ·obtain rfl:i=k:=by omega
    have hdg:=HDG.out;have hnd:=HND.out;clear hin HND HDG HV;have gk1:decide ((1:Int)≤(i:Int))=false:=decide_eq_false (by omega);have gk0:((i:Int)==0)=true:=by rw [beq_iff_eq];omega
    have hnil:ds=[]:=List.eq_nil_of_length_eq_zero (by omega);have hsp:=no_sp (h:=ds) (part_zero hnil) (dig_ok hdg);have hqc:=cnt_quot s;rw [HT.out] at hqc;have hqg:=(snip_good (36::(ds++T))).2.2.2;have hqk:cnt (36::(ds++T))≤30:=by rw [hnil];show List.count 123 (36::T)≤30;rw [List.count_cons_of_ne (by decide)];omega
    have H1:=Lib.hid (sreadH (snipM_ok hsp (by simp;omega) (by simp [Sn.deepL,Sn.deep,textS])) (by simp;omega));have H2:=Lib.hid (sreadH (snipM_ok (T:=36::(ds++T)) rfl (by simp;omega) (by omega)) (by simp;omega));have HS1:=Lib.hid (nsame (ks:=[textS (36::(ds++[32]))]) ⟨textS_small (by simp;omega),trivial⟩ (by simp));obtain⟨L2,hL2⟩:∃L2,snipL (36::(ds++T))=L2:=⟨_,rfl⟩;rw [hL2] at H2;clear hsp hdg hnd HT hqc hqg hqk hL2 hnil;go_wp2_with (go_at_call 10;refine(H1.out _ _ (by simp)).mono ?_)
    rintro e w2 ⟨a2,c2,rfl,hb2,hs2⟩;go_wp2_with (go_at_call 13;refine(HG.out _).mono ?_)
    first|rintro e w3 rfl hb3|rintro e w3 ⟨rfl,hb3⟩
    go_wp2_with (go_at_call 10;refine(H2.out _ _ (by simp)).mono ?_)
    rintro e w4 ⟨a4,c4,rfl,hb4,hs4⟩;have hbw4:=bel2 (bel2 (bel2 hb hb2) hb3) hb4;have HA:=Lib.hid ((hs2.later hb3).later hb4);clear hb hb2 hb3 hb4 hs2 hs4;have hbP:Below w4.heap.size w4 (w4.alloc (.cells #[.int .i64 0,.string ⟨((36::(ds++[32]))).toArray⟩,.int .i64 0,.bool false,.bool false,.int .i64 0,.string ⟨#[]⟩,.bool false,.slice none 0 0,.int .i64 0,.int .i64 0,.bool false,.slice none 0 0,.slice none 0 0,.bool false,.bool false,.slice none 0 0,.slice none 0 0] 36)):=(Below.refl _ _).alloc (Nat.le_refl _) _;have HCP:=Lib.hid (HS1.out _ (fun _=>True) a2 _ c2 1 _ (HA.out.later hbP) (snsl_one (cc:=[.int .i64 0,.string ⟨((36::(ds++[32]))).toArray⟩,.int .i64 0,.bool false,.bool false,.int .i64 0,.string ⟨#[]⟩,.bool false,.slice none 0 0,.int .i64 0,.int .i64 0,.bool false,.slice none 0 0,.slice none 0 0,.bool false,.bool false,.slice none 0 0,.slice none 0 0]) (textS_v _ _ _) (heap_alloc_new w4 (.cells #[.int .i64 0,.string ⟨((36::(ds++[32]))).toArray⟩,.int .i64 0,.bool false,.bool false,.int .i64 0,.string ⟨#[]⟩,.bool false,.slice none 0 0,.int .i64 0,.int .i64 0,.bool false,.slice none 0 0,.slice none 0 0,.bool false,.bool false,.slice none 0 0,.slice none 0 0] 36))));go_wp2_with (go_at_call 15;refine HCP.out.mono ?_)
    first|rintro e w6 rfl hxP|rintro e w6 ⟨rfl,hxP⟩
    have hbw6:=bel2 (bel2 hbw4 hbP) hxP;clear HCP hbP hxP;go_wp2_with (go_at_call 11;refine(awake21 _).mono ?_;rintro e w9 ⟨rfl,hb9⟩)
    go_ret
    exact⟨rfl,bel2 hbw6 hb9⟩
set_option maxHeartbeats 4000000 in
theorem SreadDigits_bad (z1 z2:Int) (br:Bool) (s:Str) (w:World) (hs:30<s.length∨∃c:UInt8,0<s.length∧s.length≤30∧(∀hi:0<s.length,s[0]'hi=c)∧48≤c.toNat∧c.toNat≤57):Calls Try.prog 8 #[.int .i64 z1,.int .i64 z2,.bool br,.string ⟨(s).toArray⟩] w fun e w'=>e=.returned (.bool true)∧Below w.heap.size w w':=by
 rcases hs with h|⟨c,h1,h2,h3,h4,h5⟩
 ·have g0:decide ((30:Int)<(s.length:Int))=true:=decide_eq_true (by omega)
  go_enter Try.func8,Try.ntmps8
  go_wp2_with (go_at_call 11;refine(awake21 _).mono ?_;rintro e w9 ⟨rfl,hb9⟩)
  go_ret
  exact⟨rfl,hb9⟩
 ·have g0:decide ((30:Int)<(s.length:Int))=false:=decide_eq_false (by omega)
  have g1:decide ((0:Int)<(s.length:Int))=true:=decide_eq_true (by omega);have g3:decide ((48:Int)≤(c.toNat:Int))=true:=decide_eq_true (by omega);have g2:decide ((c.toNat:Int)≤57)=true:=decide_eq_true (by omega);go_enter Try.func8,Try.ntmps8
  go_wp2_with (go_at_call 11;refine(awake21 _).mono ?_;rintro e w9 ⟨rfl,hb9⟩)
  go_ret
  exact⟨rfl,hb9⟩
theorem SreadDigits_walk (z1 z2:Int) (br:Bool) (s:Str) (w:World):Calls Try.prog 8 #[.int .i64 z1,.int .i64 z2,.bool br,.string ⟨(s).toArray⟩] w fun e w'=>e=.returned (.bool true)∧Below w.heap.size w w':=by
 have hd:(s.length≤30∧NoDig s)∨(30<s.length∨∃c:UInt8,0<s.length∧s.length≤30∧(∀hi:0<s.length,s[0]'hi=c)∧48≤c.toNat∧c.toNat≤57):=by
  by_cases hl:s.length≤30
  ·cases s with
   | nil=>exact .inl ⟨hl,fun c t e=>by cases e⟩
   | cons c t =>
    by_cases hc:48≤c.toNat∧c.toNat≤57
    ·exact .inr (.inr ⟨c,by simp,hl,fun _=>rfl,hc.1,hc.2⟩)
    ·exact .inl ⟨hl,fun d u e=>by injection e with e _;subst e;exact hc⟩
  ·exact .inr (.inl (by omega))
 rcases hd with⟨hs,hnd⟩|hd
 ·have h8:=low_lt z1 (n:=8) (by omega)
  obtain⟨k,hk⟩:∃k:Nat,low z1 8=k:=⟨(low z1 8).toNat,by omega⟩;have h7:k≤7:=by omega
  by_cases h0:k<1
  ·cases br with
   | true=>exact SreadDigits_zb z1 z2 s w hs hnd k hk h0
   | false=>exact SreadDigits_zn z1 z2 s w hs hnd k hk h0
  ·by_cases h4:k≤4
   ·cases br with
    | true=>exact SreadDigits_yb z1 z2 s w hs hnd k hk (by omega) h4
    | false=>exact SreadDigits_yn z1 z2 s w hs hnd k hk (by omega) h4
   ·cases br with
    | true=>exact SreadDigits_nb z1 z2 s w hs hnd k hk (by omega) h7
    | false=>exact SreadDigits_nn z1 z2 s w hs hnd k hk (by omega) h7
 ·exact SreadDigits_bad z1 z2 br s w hd
end Go.Proofs.Ytbgcjpefocdkkaa
