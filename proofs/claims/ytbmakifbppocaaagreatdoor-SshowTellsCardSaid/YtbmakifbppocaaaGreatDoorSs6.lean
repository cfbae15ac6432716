/- walks of rxtree: fits, May -/
import Derived.Test.YtbmakifbppocaaaGreatDoorSs1
import Derived.Test.YtbmakifbppocaaaGreatDoorSs2
import Derived.Test.YtbmakifbppocaaaGreatDoorSs5
import Derived.Test.YtbmakifbppocaaaGreatDoorSs3
set_option maxRecDepth 100000
namespace Go.Proofs.YtbmakifbppocaaaGreatDoor
open Go.RowKit
/-- What 'fits' answers: what is left, if the tree may be. -/
def FitPost (x:Rx) (left dp:Int) (e:Ending):Prop :=
 ∃ l':Int,e=.returned (.tuple #[.int .i64 l',.bool (okB x left dp)])∧(okB x left dp=true→l'=left - x.parts)
def FitRel (ks:List Rx) (R:Bool) (tot dp:Int) (w:World) (t q:Value) (wr:World):Prop :=
 ∃ (k:Nat) (l:Int),k≤ks.length∧q=.int .i64 k∧t=.int .i64 l∧0≤l∧l≤100000∧Below w.heap.size w wr∧Hid (okL (ks.drop k) l dp=R)∧Hid (l - Rx.partsL (ks.drop k)=tot)
theorem okL_nil {l dp:Int} (h:0≤l) (h':0≤dp):okL [] l dp=true:=by
 unfold okL
 rw [decide_eq_true (show ((Rx.partsL []:Nat):Int)≤l from h),decide_eq_true (show ((Rx.deepL []:Nat):Int)≤dp from h')];rfl
theorem fields_eq {S:Nat→Prop} {K:Int} {c:Str} {ng:Bool} {ra:Option Addr} {rs:List (Str × Str)} {rc:Nat} {lo hi:Int} {lz:Bool} {ka:Option Addr} {ks:List Rx} {kc:Nat} {b:Bool} (w:World)
  (h:fieldsB (.mk K c ng rs lo hi lz ks)=b) (hr:SlS w S ra 2 rs.length (rcells rs)) (hx:RxSl w S ka ks.length ks) (hsm:(Rx.mk K c ng rs lo hi lz ks).small1) :
  Calls Tryz.prog 94 #[.agg #[.int .i64 K,.string ⟨(c).toArray⟩,.bool ng,.slice ra rs.length rc,.int .i64 lo,.int .i64 hi,.bool lz,.slice ka ks.length kc]] w fun e w'=>e=.returned (.bool b)∧Below w.heap.size w w'∧∀ a u,w.cell? a=some u→w'.cell? a=some u:=by
 subst h
 exact (fields_any S K c ng ra rs rc lo hi lz ka ks kc w hr hx hsm).mono fun _ _ ⟨h1,h2⟩=>⟨h1,h2,cell_kept h2⟩
set_option maxHeartbeats 4000000 in
theorem fits_any (S:Nat→Prop):∀ (N:Nat) (x:Rx),x.parts≤N→x.parts≤1000000→x.small→∀ (cc:List Value) (w:World) (left dp:Int),RxV w S cc x→-100000≤left→left≤100000→-100000≤dp→dp≤100000 →
  Calls Tryz.prog 79 #[.agg cc.toArray,.int .i64 left,.int .i64 dp] w fun e w'=>FitPost x left dp e∧Below w.heap.size w w'
 | 0,x,h,_,_,_,_,_,_,_,_,_,_,_=>by have:=Rx.parts_pos x;omega
 | N+1,.mk k c ng rs lo hi lz ks,h,hm,hsm,cc,w,left,dp,hv,l0,l1,d0,d1=>by
  obtain ⟨ra,rc,ka,kc,rfl,hrs,hx⟩:=hv.open_
  obtain ⟨hs1,hs2⟩:=hsm
  simp only [Rx.parts] at h hm
  have hlen:=Rx.len_parts ks
  have ih:=fun (y:Rx) (hy:y.parts≤Rx.partsL ks)=>fits_any S N y (by omega) (by omega)
  have IH:=Lib.hid ih
  have HSM:=Lib.hid hs2
  have HS1:=Lib.hid hs1
  have hb0:=(Below.refl w.heap.size w).alloc (Nat.le_refl _) (.cells #[.int .i64 k,.string ⟨(c).toArray⟩,.bool ng,.slice ra rs.length rc,.int .i64 lo,.int .i64 hi,.bool lz,.slice ka ks.length kc] 32)
  have HX0:=Lib.hid (hx.later hb0)
  have HRS:=Lib.hid (hrs.keep (Kept.all hb0))
  clear hx hv hrs ih hs1 hs2
  unfold rxc
  cases hG:grpB k with
  | true =>
   cases hF:fieldsB (.mk k c ng rs lo hi lz ks) with
   | false =>
    have HF:=Lib.hid hF
    have HO:Hid (okB (.mk k c ng rs lo hi lz ks) left dp=false):=Lib.hid (by rw [okB_eq,hF];simp)
    clear hF
    go_enter Tryz.func79,Tryz.ntmps79
    go_wp2_with (first | (go_at_call 93;refine (group_any _ _).mono ?_;rintro e w1 ⟨rfl,rfl⟩;rw [hG]) | (go_at_call 94;refine (fields_eq _ HF.out HRS.out HX0.out HS1.out).mono ?_;rintro e w1 ⟨rfl,hb1,hc1⟩;have z1:=hc1 ⟨w.heap.size,7,none⟩ (.slice ka ks.length kc) (by simp)))
    all_goals
     (go_ret2;refine ⟨⟨left,by rw [HO.out];rfl,fun h=>by rw [HO.out] at h;cases h⟩,?_⟩;first | exact (Below.refl _ _).alloc (Nat.le_refl _) _ | exact ((Below.refl _ _).alloc (Nat.le_refl _) _).trans (hb1.mono (by simp)))
   | true =>
    have HF:=Lib.hid hF
    by_cases hld:left < 1∨dp - 1 < 0
    ·have HO:Hid (okB (.mk k c ng rs lo hi lz ks) left dp=false):=Lib.hid (by
      rw [okB_eq,hG]
      rcases hld with h | h
      ·rw [decide_eq_false (by omega:¬ 1≤left)];rfl
      ·simp;omega)
     clear hF
     go_enter Tryz.func79,Tryz.ntmps79
     go_wp2_with (first | (go_at_call 93;refine (group_any _ _).mono ?_;rintro e w1 ⟨rfl,rfl⟩;rw [hG]) | (go_at_call 94;refine (fields_eq _ HF.out HRS.out HX0.out HS1.out).mono ?_;rintro e w1 ⟨rfl,hb1,hc1⟩;have z1:=hc1 ⟨w.heap.size,7,none⟩ (.slice ka ks.length kc) (by simp)))
     all_goals first
      | (exfalso;omega)
      | (go_ret2;refine ⟨⟨left,by rw [HO.out];rfl,fun h=>by rw [HO.out] at h;cases h⟩,?_⟩;first | exact (Below.refl _ _).alloc (Nat.le_refl _) _ | exact ((Below.refl _ _).alloc (Nat.le_refl _) _).trans (hb1.mono (by simp)))
    ·have hl1:1≤left:=by omega
     have hd0:0≤dp - 1:=by omega
     have HO:Hid (okB (.mk k c ng rs lo hi lz ks) left dp=okL ks (left - 1) (dp - 1)):=Lib.hid (by rw [okB_eq,hG,hF,decide_eq_true hl1];simp;omega)
     clear hF hld
     obtain ⟨R,hR⟩:∃ R,okL ks (left - 1) (dp - 1)=R:=⟨_,rfl⟩
     have HR0:Hid (okL (ks.drop 0) (left - 1) (dp - 1)=R):=Lib.hid hR
     have HT0:Hid (left - 1 - Rx.partsL (ks.drop 0)=left - (Rx.mk k c ng rs lo hi lz ks).parts):=Lib.hid (by simp only [Rx.parts,List.drop_zero];omega)
     obtain ⟨tot,htot⟩:∃ tot,left - ((Rx.mk k c ng rs lo hi lz ks).parts:Int)=tot:=⟨_,rfl⟩
     have HOR:Hid (okB (.mk k c ng rs lo hi lz ks) left dp=R):=Lib.hid (by rw [HO.out,hR])
     have HTT:=Lib.hid htot
     rw [htot] at HT0
     clear hR htot HO
     go_enter Tryz.func79,Tryz.ntmps79
     go_wp2_with (first | (go_at_call 93;refine (group_any _ _).mono ?_;rintro e w1 ⟨rfl,rfl⟩;rw [hG]) | (go_at_call 94;refine (fields_eq _ HF.out HRS.out HX0.out HS1.out).mono ?_;rintro e w1 ⟨rfl,hb1,hc1⟩;have z1:=hc1 ⟨w.heap.size,7,none⟩ (.slice ka ks.length kc) (by simp)))
     have HX1:=Lib.hid ((HX0.out.later (Below.refl _ _)).later hb1)
     have hbw1:Below w.heap.size w w1:=((Below.refl _ _).alloc (Nat.le_refl _) _).trans (hb1.mono (by simp))
     have hz1:=hbw1.size
     clear hb1 hc1 z1
     go_loopw [1,33] (fun t q wr=>FitRel ks R tot (dp - 1) w1 t q wr) (fun _ q _=>ks.length - (intOf q).toNat)
     case atStart=>exact ⟨0,left - 1,by omega,rfl,rfl,by omega,by omega,Below.refl _ _,HR0,HT0⟩
     case round =>
      obtain ⟨i,l,hi,rfl,rfl,hl0,hl9,hb,HL,HTL⟩:=hrel
      clear HR0 HT0
      have hB:=hb.size
      cases hd:ks.drop i with
      | nil =>
       have h2:ks.length≤i:=by simpa using hd
       have HE:Hid (R=true):=Lib.hid (by rw [← HL.out,hd,okL_nil hl0 hd0])
       have HE2:Hid (l=tot):=Lib.hid (by rw [← HTL.out,hd];simp [Rx.partsL])
       clear hd HL HTL
       go_wp2
       go_ret2
       exact ⟨⟨l,by rw [HOR.out,HE.out];rfl,fun _=>by rw [HE2.out,← HTT.out]⟩,hbw1.trans (hb.mono hz1)⟩
      | cons y r =>
       have HX:=HX1
       obtain ⟨h2,h3,hr⟩:=ldrop_cons hd
       obtain ⟨yk,yc,yn,yr,yl,yh,yz,ys⟩:=y
       obtain ⟨b,o,ya,yrc,yka,ykc,rfl,hS,hbB,_,_,hyv,c0,c1,c2,c3,c4,c5,c6,c7⟩:=(HX.out.later hb).cells h3
       have hyp:=Rx.parts_mem (List.mem_of_getElem? h3)
       have hym:=smallL_mem HSM.out (List.mem_of_getElem? h3)
       have Hr:=Lib.hid hr
       have HE:Hid (R=(okB (.mk yk yc yn yr yl yh yz ys) l (dp - 1) && okL r (l - (Rx.mk yk yc yn yr yl yh yz ys).parts) (dp - 1))):=Lib.hid (by rw [← HL.out,hd,okL_cons])
       have HE2:Hid (l - (Rx.mk yk yc yn yr yl yh yz ys).parts - Rx.partsL r=tot):=Lib.hid (by rw [← HTL.out,hd];simp only [Rx.partsL];omega)
       have HYV:=Lib.hid (hyv.later ((Below.refl wr.heap.size wr).alloc (Nat.le_refl _) (.cells (rxc yk yc yn ya yr.length yrc yl yh yz yka ys.length ykc).toArray 32)))
       unfold rxc at HYV
       have HYM:=Lib.hid hym
       clear hd HL HTL hr h3 hyv hym
       go_wp2_with (go_at_call 79;refine (IH.out _ hyp HYM.out _ _ l (dp - 1) HYV.out (by omega) (by omega) (by omega) (by omega)).mono ?_)
       rintro e w2 ⟨⟨l',rfl,hl'⟩,hb2⟩
       have hbw2:Below w.heap.size w w2:=hbw1.trans (((hb.alloc hB _).trans (hb2.mono (by simp;omega))).mono hz1)
       cases hok:okB (.mk yk yc yn yr yl yh yz ys) l (dp - 1) with
       | false =>
        have HE3:Hid (R=false):=Lib.hid (by rw [HE.out,hok];rfl)
        clear hl'
        go_wp2
        go_ret2
        exact ⟨⟨_,by rw [HOR.out,HE3.out];rfl,fun h=>by rw [HOR.out,HE3.out] at h;cases h⟩,hbw2⟩
       | true =>
        have hl2:=hl' hok
        have hpp:(Rx.mk yk yc yn yr yl yh yz ys).parts≤l:=by
         have h:=hok;simp only [okB,Bool.and_eq_true,decide_eq_true_eq] at h;exact h.1.2
        have HE3:Hid (okL r l' (dp - 1)=R):=Lib.hid (by rw [HE.out,hok,hl2];rfl)
        have hl3:0≤l':=by omega
        have hl4:l'≤100000:=by omega
        have HE4:Hid (l' - Rx.partsL r=tot):=Lib.hid (by rw [hl2];exact HE2.out)
        clear hl' hl2
        go_wp2
        go_roundw
        case rel=>exact ⟨i+1,l',by omega,by go_num,rfl,hl3,hl4,(hb.alloc hB _).trans (hb2.mono (by simp;omega)),Lib.hid (by rw [Hr.out];exact HE3.out),Lib.hid (by rw [Hr.out];exact HE4.out)⟩
        case measure=>simp [intOf];omega
  | false =>
   cases hF:fieldsB (.mk k c ng rs lo hi lz ks) with
   | false =>
    have HF:=Lib.hid hF
    have HO:Hid (okB (.mk k c ng rs lo hi lz ks) left dp=false):=Lib.hid (by rw [okB_eq,hF];simp)
    clear hF
    go_enter Tryz.func79,Tryz.ntmps79
    go_wp2_with (first | (go_at_call 93;refine (group_any _ _).mono ?_;rintro e w1 ⟨rfl,rfl⟩;rw [hG]) | (go_at_call 94;refine (fields_eq _ HF.out HRS.out HX0.out HS1.out).mono ?_;rintro e w1 ⟨rfl,hb1,hc1⟩;have z1:=hc1 ⟨w.heap.size,7,none⟩ (.slice ka ks.length kc) (by simp)))
    all_goals
     (go_ret2;refine ⟨⟨left,by rw [HO.out];rfl,fun h=>by rw [HO.out] at h;cases h⟩,?_⟩;first | exact (Below.refl _ _).alloc (Nat.le_refl _) _ | exact ((Below.refl _ _).alloc (Nat.le_refl _) _).trans (hb1.mono (by simp)))
   | true =>
    have HF:=Lib.hid hF
    by_cases hld:left < 1∨dp < 0
    ·have HO:Hid (okB (.mk k c ng rs lo hi lz ks) left dp=false):=Lib.hid (by
      rw [okB_eq,hG]
      rcases hld with h | h
      ·rw [decide_eq_false (by omega:¬ 1≤left)];rfl
      ·simp;omega)
     clear hF
     go_enter Tryz.func79,Tryz.ntmps79
     go_wp2_with (first | (go_at_call 93;refine (group_any _ _).mono ?_;rintro e w1 ⟨rfl,rfl⟩;rw [hG]) | (go_at_call 94;refine (fields_eq _ HF.out HRS.out HX0.out HS1.out).mono ?_;rintro e w1 ⟨rfl,hb1,hc1⟩;have z1:=hc1 ⟨w.heap.size,7,none⟩ (.slice ka ks.length kc) (by simp)))
     all_goals first
      | (exfalso;omega)
      | (go_ret2;refine ⟨⟨left,by rw [HO.out];rfl,fun h=>by rw [HO.out] at h;cases h⟩,?_⟩;first | exact (Below.refl _ _).alloc (Nat.le_refl _) _ | exact ((Below.refl _ _).alloc (Nat.le_refl _) _).trans (hb1.mono (by simp)))
    ·have hl1:1≤left:=by omega
     have hd0:0≤dp:=by omega
     have HO:Hid (okB (.mk k c ng rs lo hi lz ks) left dp=okL ks (left - 1) (dp)):=Lib.hid (by rw [okB_eq,hG,hF,decide_eq_true hl1];simp;omega)
     clear hF hld
     obtain ⟨R,hR⟩:∃ R,okL ks (left - 1) (dp)=R:=⟨_,rfl⟩
     have HR0:Hid (okL (ks.drop 0) (left - 1) (dp)=R):=Lib.hid hR
     have HT0:Hid (left - 1 - Rx.partsL (ks.drop 0)=left - (Rx.mk k c ng rs lo hi lz ks).parts):=Lib.hid (by simp only [Rx.parts,List.drop_zero];omega)
     obtain ⟨tot,htot⟩:∃ tot,left - ((Rx.mk k c ng rs lo hi lz ks).parts:Int)=tot:=⟨_,rfl⟩
     have HOR:Hid (okB (.mk k c ng rs lo hi lz ks) left dp=R):=Lib.hid (by rw [HO.out,hR])
     have HTT:=Lib.hid htot
     rw [htot] at HT0
     clear hR htot HO
     go_enter Tryz.func79,Tryz.ntmps79
     go_wp2_with (first | (go_at_call 93;refine (group_any _ _).mono ?_;rintro e w1 ⟨rfl,rfl⟩;rw [hG]) | (go_at_call 94;refine (fields_eq _ HF.out HRS.out HX0.out HS1.out).mono ?_;rintro e w1 ⟨rfl,hb1,hc1⟩;have z1:=hc1 ⟨w.heap.size,7,none⟩ (.slice ka ks.length kc) (by simp)))
     have HX1:=Lib.hid ((HX0.out.later (Below.refl _ _)).later hb1)
     have hbw1:Below w.heap.size w w1:=((Below.refl _ _).alloc (Nat.le_refl _) _).trans (hb1.mono (by simp))
     have hz1:=hbw1.size
     clear hb1 hc1 z1
     go_loopw [1,33] (fun t q wr=>FitRel ks R tot (dp) w1 t q wr) (fun _ q _=>ks.length - (intOf q).toNat)
     case atStart=>exact ⟨0,left - 1,by omega,rfl,rfl,by omega,by omega,Below.refl _ _,HR0,HT0⟩
     case round =>
      obtain ⟨i,l,hi,rfl,rfl,hl0,hl9,hb,HL,HTL⟩:=hrel
      clear HR0 HT0
      have hB:=hb.size
      cases hd:ks.drop i with
      | nil =>
       have h2:ks.length≤i:=by simpa using hd
       have HE:Hid (R=true):=Lib.hid (by rw [← HL.out,hd,okL_nil hl0 hd0])
       have HE2:Hid (l=tot):=Lib.hid (by rw [← HTL.out,hd];simp [Rx.partsL])
       clear hd HL HTL
       go_wp2
       go_ret2
       exact ⟨⟨l,by rw [HOR.out,HE.out];rfl,fun _=>by rw [HE2.out,← HTT.out]⟩,hbw1.trans (hb.mono hz1)⟩
      | cons y r =>
       have HX:=HX1
       obtain ⟨h2,h3,hr⟩:=ldrop_cons hd
       obtain ⟨yk,yc,yn,yr,yl,yh,yz,ys⟩:=y
       obtain ⟨b,o,ya,yrc,yka,ykc,rfl,hS,hbB,_,_,hyv,c0,c1,c2,c3,c4,c5,c6,c7⟩:=(HX.out.later hb).cells h3
       have hyp:=Rx.parts_mem (List.mem_of_getElem? h3)
       have hym:=smallL_mem HSM.out (List.mem_of_getElem? h3)
       have Hr:=Lib.hid hr
       have HE:Hid (R=(okB (.mk yk yc yn yr yl yh yz ys) l (dp) && okL r (l - (Rx.mk yk yc yn yr yl yh yz ys).parts) (dp))):=Lib.hid (by rw [← HL.out,hd,okL_cons])
       have HE2:Hid (l - (Rx.mk yk yc yn yr yl yh yz ys).parts - Rx.partsL r=tot):=Lib.hid (by rw [← HTL.out,hd];simp only [Rx.partsL];omega)
       have HYV:=Lib.hid (hyv.later ((Below.refl wr.heap.size wr).alloc (Nat.le_refl _) (.cells (rxc yk yc yn ya yr.length yrc yl yh yz yka ys.length ykc).toArray 32)))
       unfold rxc at HYV
       have HYM:=Lib.hid hym
       clear hd HL HTL hr h3 hyv hym
       go_wp2_with (go_at_call 79;refine (IH.out _ hyp HYM.out _ _ l (dp) HYV.out (by omega) (by omega) (by omega) (by omega)).mono ?_)
       rintro e w2 ⟨⟨l',rfl,hl'⟩,hb2⟩
       have hbw2:Below w.heap.size w w2:=hbw1.trans (((hb.alloc hB _).trans (hb2.mono (by simp;omega))).mono hz1)
       cases hok:okB (.mk yk yc yn yr yl yh yz ys) l (dp) with
       | false =>
        have HE3:Hid (R=false):=Lib.hid (by rw [HE.out,hok];rfl)
        clear hl'
        go_wp2
        go_ret2
        exact ⟨⟨_,by rw [HOR.out,HE3.out];rfl,fun h=>by rw [HOR.out,HE3.out] at h;cases h⟩,hbw2⟩
       | true =>
        have hl2:=hl' hok
        have hpp:(Rx.mk yk yc yn yr yl yh yz ys).parts≤l:=by
         have h:=hok;simp only [okB,Bool.and_eq_true,decide_eq_true_eq] at h;exact h.1.2
        have HE3:Hid (okL r l' (dp)=R):=Lib.hid (by rw [HE.out,hok,hl2];rfl)
        have hl3:0≤l':=by omega
        have hl4:l'≤100000:=by omega
        have HE4:Hid (l' - Rx.partsL r=tot):=Lib.hid (by rw [hl2];exact HE2.out)
        clear hl' hl2
        go_wp2
        go_roundw
        case rel=>exact ⟨i+1,l',by omega,by go_num,rfl,hl3,hl4,(hb.alloc hB _).trans (hb2.mono (by simp;omega)),Lib.hid (by rw [Hr.out];exact HE3.out),Lib.hid (by rw [Hr.out];exact HE4.out)⟩
        case measure=>simp [intOf];omega
theorem RxMay_any (S:Nat→Prop) (x:Rx) (cc:List Value) (w:World) (hm:x.parts≤1000000) (hsm:x.small) (hv:RxV w S cc x) :
  Calls Tryz.prog 61 #[.agg cc.toArray] w fun e w'=>e=.returned (.bool (mayB x))∧Below w.heap.size w w':=by
 obtain ⟨k,c,ng,rs,lo,hi,lz,ks⟩:=x
 obtain ⟨ra,rc,ka,kc,rfl,hrs,hx⟩:=hv.open_
 have HV:=Lib.hid (hv.later ((Below.refl w.heap.size w).alloc (Nat.le_refl _) (.cells #[.int .i64 k,.string ⟨(c).toArray⟩,.bool ng,.slice ra rs.length rc,.int .i64 lo,.int .i64 hi,.bool lz,.slice ka ks.length kc] 32)))
 have HSM:=Lib.hid hsm
 have HM:=Lib.hid hm
 clear hv hrs hx hsm hm
 unfold rxc at HV ⊢
 go_enter Tryz.func61,Tryz.ntmps61
 go_wp2_with (go_at_call 79;refine (fits_any S _ _ (Nat.le_refl _) HM.out HSM.out _ _ 512 16 HV.out (by decide) (by decide) (by decide) (by decide)).mono ?_;rintro e w1 ⟨⟨l',rfl,hl'⟩,hb1⟩)
 go_ret
 exact ⟨rfl,((Below.refl _ _).alloc (Nat.le_refl _) _).trans (hb1.mono (by simp))⟩
end Go.Proofs.YtbmakifbppocaaaGreatDoor
set_option maxRecDepth 100000
namespace Go.Proofs.YtbmakifbppocaaaGreatDoor
open Go.RowKit
def ShowC (B g:Nat) (x:Rx):Prop:=∀ (cc:List Value) (acc:Str) (w:World),RxV w (· < B) cc x→Bld B g acc w→B≤w.heap.size→Tab w→(acc++x.tell).length≤10000000 →
 Calls Tryz.prog 63 #[.pointer (some ⟨g,0,none⟩),.agg cc.toArray] w fun e w'=>ShwPost B g (acc++x.tell) w e w'
theorem ShowC.at_ {B g:Nat} {x:Rx} {out:Str} (h:ShowC B g x) {cc:List Value} {acc:Str} {w:World} (hv:RxV w (· < B) cc x) (hbl:Bld B g acc w) (hB:B≤w.heap.size) (ht:Tab w) (ho:acc++x.tell=out) (hl:out.length≤10000000) :
  Calls Tryz.prog 63 #[.pointer (some ⟨g,0,none⟩),.agg cc.toArray] w fun e w'=>e=.returned (.tuple #[])∧Bld B g out w'∧Fr B [g] [5] w w':=by
 subst ho;exact h cc acc w hv hbl hB ht hl
def tlF (_:Nat) (ks:List Rx):Str:=Rx.tellL ks
def taF (k:Nat) (ks:List Rx):Str:=Rx.tellA (decide (0 < k)) ks
set_option maxHeartbeats 4000000 in
theorem show_seq (B g:Nat) (acc:Str) (c:Str) (ng:Bool) (ra:Option Addr) (rs:List (Str × Str)) (rn rc:Nat) (lo hi:Int) (lz:Bool) (ka:Option Addr) (ks:List Rx) (kc:Nat) (w:World)
  (ih:∀ y ∈ ks,ShowC B g y) (hgT:1 < B)
  (hbl:Bld B g acc w) (hB:B≤w.heap.size) (ht:Tab w) (hx:RxSl w (· < B) ka ks.length ks) (hkl:ks.length≤1000000)
  (hlen:(acc++tlF 0 ks).length≤10000000) :
  Calls Tryz.prog 63 #[.pointer (some ⟨g,0,none⟩),.agg #[.int .i64 0,.string ⟨(c).toArray⟩,.bool ng,.slice ra rn rc,.int .i64 lo,.int .i64 hi,.bool lz,.slice ka ks.length kc]] w fun e w'=>ShwPost B g (acc++(Rx.mk 0 c ng rs lo hi lz ks).tell) w e w':=by
 have IH:=Lib.hid ih
 clear ih
 obtain ⟨T,hT⟩:∃ T,acc++tlF 0 ks=T:=⟨_,rfl⟩
 have HT0:Hid (acc++tlF 0 (ks.drop 0)=T):=Lib.hid hT
 have HTL:T.length≤10000000:=by rw [← hT];exact hlen
 have HTT:=Lib.hid hT
 clear hT hlen
 have hgl:=hbl.lt
 have hgB:=hbl.le
 obtain ⟨w0,hw0⟩:∃ w0,w0=w.alloc (.cells #[.int .i64 0,.string ⟨(c).toArray⟩,.bool ng,.slice ra rn rc,.int .i64 lo,.int .i64 hi,.bool lz,.slice ka ks.length kc] 32):=⟨_,rfl⟩
 have hb0:Below w.heap.size w w0:=by rw [hw0];exact (Below.refl _ _).alloc (Nat.le_refl _) _
 have HX:=Lib.hid (hx.keep (Kept.all hb0))
 have hbl0:Bld B g acc w0:=by rw [hw0];exact hbl.alloc _
 have HTB:=Lib.hid (ht.keep hb0)
 have hB0:B≤w0.heap.size:=Nat.le_trans hB hb0.size
 clear hx ht hbl
 go_enter Tryz.func63,Tryz.ntmps63
 go_wp2
 rw [← hw0]
 have hf0:Fr B [g] [5] w w0:=Fr.of_below hb0 (Nat.le_refl _)
 clear hw0
 go_loopw [15] (fun q wr=>TellRel B g ks tlF T w0 q wr) (fun q _=>ks.length - (intOf q).toNat)
 case atStart=>exact ⟨0,acc,by omega,rfl,hbl0,Fr.refl _ _ _ _,HT0⟩
 case round =>
  obtain ⟨k,ac,hk,rfl,hblr,hfrr,HF⟩:=hrel
  clear HT0 hbl0
  have hBr:B≤wr.heap.size:=Nat.le_trans hB0 hfrr.size
  have hkp:=Kept.fr hfrr hB0 hgB
  have htr:Tab wr:=HTB.out.keepB hgT (hfrr.below hB0 (by simpa using hgB))
  have hgl2:=hblr.lt
  have hacl:ac.length≤10000000:=by have h:=congrArg List.length HF.out;simp only [List.length_append] at h;omega
  cases hd:ks.drop k with
  | nil =>
   have h2:ks.length≤k:=by simpa using hd
   have HE:Hid (ac=T):=Lib.hid (by rw [← HF.out,hd];simp [tlF,Rx.tellL])
   clear hd HF
   go_wp2
   go_end0
   exact ⟨rfl,by have h:=hblr;rw [HE.out,← HTT.out] at h;simpa [Rx.tell,tlF] using h,hf0.trans hfrr⟩
  | cons y r =>
   obtain ⟨h2,h3,hr⟩:=ldrop_cons hd
   have hymem:=List.mem_of_getElem? h3
   obtain ⟨yk,yc,yn,yr,yl,yh,yz,ys⟩:=y
   obtain ⟨b,o,ya,yrc,yka,ykc,rfl,hS,hbB,_,_,hyv,c0,c1,c2,c3,c4,c5,c6,c7⟩:=(HX.out.keep hkp).cells h3
   have Hr:=Lib.hid hr
   have HYV:=Lib.hid (hyv.keep (Kept.all ((Below.refl wr.heap.size wr).alloc (Nat.le_refl _) (.cells (rxc yk yc yn ya yr.length yrc yl yh yz yka ys.length ykc).toArray 32))))
   unfold rxc at HYV
   have HE:Hid (ac++(Rx.tell (.mk yk yc yn yr yl yh yz ys)++tlF (k+1) r)=T):=Lib.hid (by rw [← HF.out,hd];rfl)
   have hol:(ac++Rx.tell (.mk yk yc yn yr yl yh yz ys)).length≤10000000:=by have h:=congrArg List.length HE.out;simp only [List.length_append] at h ⊢;omega
   have HTA:=Lib.hid (htr.keep ((Below.refl wr.heap.size wr).alloc (Nat.le_refl _) (.cells (rxc yk yc yn ya yr.length yrc yl yh yz yka ys.length ykc).toArray 32)))
   unfold rxc at HTA
   clear hd HF hr h3 hyv htr
   go_wp2_with (go_at_call 63;refine ((IH.out _ hymem).at_ HYV.out (hblr.alloc _) (by simp;omega) HTA.out rfl hol).mono ?_)
   first | rintro e w2 rfl hbl2 hfr2 | rintro e w2 ⟨rfl,hbl2,hfr2⟩
   go_wp2_with fail
   go_roundw
   case rel=>exact ⟨k+1,_,by omega,by go_num,hbl2,hfrr.trans (((Fr.refl _ _ _ _).alloc _).trans hfr2),Lib.hid (by rw [Hr.out,← HE.out,List.append_assoc])⟩
   case measure=>simp [intOf];omega
set_option maxHeartbeats 4000000 in
theorem show_alt (B g:Nat) (acc:Str) (c:Str) (ng:Bool) (ra:Option Addr) (rs:List (Str × Str)) (rn rc:Nat) (lo hi:Int) (lz:Bool) (ka:Option Addr) (ks:List Rx) (kc:Nat) (w:World)
  (ih:∀ y ∈ ks,ShowC B g y) (hgT:1 < B)
  (hbl:Bld B g acc w) (hB:B≤w.heap.size) (ht:Tab w) (hx:RxSl w (· < B) ka ks.length ks) (hkl:ks.length≤1000000)
  (hlen:(acc++taF 0 ks).length≤10000000) :
  Calls Tryz.prog 63 #[.pointer (some ⟨g,0,none⟩),.agg #[.int .i64 1,.string ⟨(c).toArray⟩,.bool ng,.slice ra rn rc,.int .i64 lo,.int .i64 hi,.bool lz,.slice ka ks.length kc]] w fun e w'=>ShwPost B g (acc++(Rx.mk 1 c ng rs lo hi lz ks).tell) w e w':=by
 have IH:=Lib.hid ih
 clear ih
 obtain ⟨T,hT⟩:∃ T,acc++taF 0 ks=T:=⟨_,rfl⟩
 have HT0:Hid (acc++taF 0 (ks.drop 0)=T):=Lib.hid hT
 have HTL:T.length≤10000000:=by rw [← hT];exact hlen
 have HTT:=Lib.hid hT
 clear hT hlen
 have hgl:=hbl.lt
 have hgB:=hbl.le
 obtain ⟨w0,hw0⟩:∃ w0,w0=w.alloc (.cells #[.int .i64 1,.string ⟨(c).toArray⟩,.bool ng,.slice ra rn rc,.int .i64 lo,.int .i64 hi,.bool lz,.slice ka ks.length kc] 32):=⟨_,rfl⟩
 have hb0:Below w.heap.size w w0:=by rw [hw0];exact (Below.refl _ _).alloc (Nat.le_refl _) _
 have HX:=Lib.hid (hx.keep (Kept.all hb0))
 have hbl0:Bld B g acc w0:=by rw [hw0];exact hbl.alloc _
 have HTB:=Lib.hid (ht.keep hb0)
 have hB0:B≤w0.heap.size:=Nat.le_trans hB hb0.size
 clear hx ht hbl
 go_enter Tryz.func63,Tryz.ntmps63
 go_wp2
 rw [← hw0]
 have hf0:Fr B [g] [5] w w0:=Fr.of_below hb0 (Nat.le_refl _)
 clear hw0
 go_loopw [28] (fun q wr=>TellRel B g ks taF T w0 q wr) (fun q _=>ks.length - (intOf q).toNat)
 case atStart=>exact ⟨0,acc,by omega,rfl,hbl0,Fr.refl _ _ _ _,HT0⟩
 case round =>
  obtain ⟨k,ac,hk,rfl,hblr,hfrr,HF⟩:=hrel
  clear HT0 hbl0
  have hBr:B≤wr.heap.size:=Nat.le_trans hB0 hfrr.size
  have hkp:=Kept.fr hfrr hB0 hgB
  have htr:Tab wr:=HTB.out.keepB hgT (hfrr.below hB0 (by simpa using hgB))
  have hgl2:=hblr.lt
  have hacl:ac.length≤10000000:=by have h:=congrArg List.length HF.out;simp only [List.length_append] at h;omega
  cases hd:ks.drop k with
  | nil =>
   have h2:ks.length≤k:=by simpa using hd
   have HE:Hid (ac=T):=Lib.hid (by rw [← HF.out,hd];simp [taF,Rx.tellA])
   clear hd HF
   go_wp2
   go_end0
   exact ⟨rfl,by have h:=hblr;rw [HE.out,← HTT.out] at h;simpa [Rx.tell,taF] using h,hf0.trans hfrr⟩
  | cons y r =>
   obtain ⟨h2,h3,hr⟩:=ldrop_cons hd
   have hymem:=List.mem_of_getElem? h3
   obtain ⟨yk,yc,yn,yr,yl,yh,yz,ys⟩:=y
   obtain ⟨b,o,ya,yrc,yka,ykc,rfl,hS,hbB,_,_,hyv,c0,c1,c2,c3,c4,c5,c6,c7⟩:=(HX.out.keep hkp).cells h3
   have Hr:=Lib.hid hr
   have HYV:=Lib.hid (hyv.keep (Kept.all ((Below.refl wr.heap.size wr).alloc (Nat.le_refl _) (.cells (rxc yk yc yn ya yr.length yrc yl yh yz yka ys.length ykc).toArray 32))))
   unfold rxc at HYV
   have HE:Hid (ac++((if 0 < k then [124] else [])++(Rx.tell (.mk yk yc yn yr yl yh yz ys)++taF (k+1) r))=T):=Lib.hid (by rw [← HF.out,hd];simp [taF,Rx.tellA])
   have HTA:=Lib.hid (htr.keep ((Below.refl wr.heap.size wr).alloc (Nat.le_refl _) (.cells (rxc yk yc yn ya yr.length yrc yl yh yz yka ys.length ykc).toArray 32)))
   unfold rxc at HTA
   by_cases hk0:0 < k
   ·have HE2:Hid (ac++[124]++Rx.tell (.mk yk yc yn yr yl yh yz ys)++taF (k+1) r=T):=Lib.hid (by rw [← HE.out,if_pos hk0];simp)
    have hol:(ac++[124]++Rx.tell (.mk yk yc yn yr yl yh yz ys)).length≤10000000:=by have h:=congrArg List.length HE2.out;simp only [List.length_append] at h ⊢;omega
    clear hd HF hr h3 hyv htr
    go_wp2_with (go_at_call 20;refine (WriteByte_any B _ (ac) 124 _ (hblr.alloc _) (by first | omega | (simp;done) | (simp;omega)) (by first | omega | (simp;done) | (simp;omega)) (by decide) (by decide)).mono ?_)
    first | rintro e w1 rfl hbl1 hfr1 | rintro e w1 ⟨rfl,hbl1,hfr1⟩
    have hbx1:=hfr1.held (heap_alloc_new wr _) (by decide) (Nat.ne_of_gt hgl2)
    have z0:w1.cell? ⟨wr.heap.size,0,none⟩=some (.int .i64 yk):=(by rw [Lib.cell_of_heap hbx1];rfl);have z1:w1.cell? ⟨wr.heap.size,1,none⟩=some (.string ⟨(yc).toArray⟩):=(by rw [Lib.cell_of_heap hbx1];rfl);have z2:w1.cell? ⟨wr.heap.size,2,none⟩=some (.bool yn):=(by rw [Lib.cell_of_heap hbx1];rfl);have z3:w1.cell? ⟨wr.heap.size,3,none⟩=some (.slice ya yr.length yrc):=(by rw [Lib.cell_of_heap hbx1];rfl);have z4:w1.cell? ⟨wr.heap.size,4,none⟩=some (.int .i64 yl):=(by rw [Lib.cell_of_heap hbx1];rfl);have z5:w1.cell? ⟨wr.heap.size,5,none⟩=some (.int .i64 yh):=(by rw [Lib.cell_of_heap hbx1];rfl);have z6:w1.cell? ⟨wr.heap.size,6,none⟩=some (.bool yz):=(by rw [Lib.cell_of_heap hbx1];rfl);have z7:w1.cell? ⟨wr.heap.size,7,none⟩=some (.slice yka ys.length ykc):=(by rw [Lib.cell_of_heap hbx1];rfl)
    have hBA:B≤(wr.alloc (.cells (rxc yk yc yn ya yr.length yrc yl yh yz yka ys.length ykc).toArray 32)).heap.size:=by simp;omega
    have hB1:B≤w1.heap.size:=Nat.le_trans hBA hfr1.size
    have HYV1:=Lib.hid (HYV.out.keep (Kept.fr hfr1 hBA hgB))
    have HTA1:=Lib.hid (HTA.out.keepB hgT (hfr1.below hBA (by simpa using hgB)))
    have hfx:=hfrr.trans (((Fr.refl _ _ _ _).alloc _).trans hfr1)
    clear hbx1 hfr1
    go_wp2_with (go_at_call 63;refine ((IH.out _ hymem).at_ HYV1.out hbl1 hB1 HTA1.out rfl hol).mono ?_)
    first | rintro e w2 rfl hbl2 hfr2 | rintro e w2 ⟨rfl,hbl2,hfr2⟩
    go_wp2_with fail
    go_roundw
    case rel=>exact ⟨k+1,_,by omega,by go_num,hbl2,hfx.trans hfr2,Lib.hid (by rw [Hr.out];exact HE2.out)⟩
    case measure=>simp [intOf];omega
   ·have hk1:k=0:=by omega
    subst hk1
    have HE2:Hid (ac++Rx.tell (.mk yk yc yn yr yl yh yz ys)++taF (0+1) r=T):=Lib.hid (by rw [← HE.out,if_neg hk0];simp)
    have hol:(ac++Rx.tell (.mk yk yc yn yr yl yh yz ys)).length≤10000000:=by have h:=congrArg List.length HE2.out;simp only [List.length_append] at h ⊢;omega
    simp only [Nat.zero_mul,Nat.add_zero] at c0 c1 c2 c3 c4 c5 c6 c7
    clear hd HF hr h3 hyv htr hk0
    go_wp2_with (go_at_call 63;refine ((IH.out _ hymem).at_ HYV.out (hblr.alloc _) (by simp;omega) HTA.out rfl hol).mono ?_)
    first | rintro e w2 rfl hbl2 hfr2 | rintro e w2 ⟨rfl,hbl2,hfr2⟩
    go_wp2_with fail
    go_roundw
    case rel=>exact ⟨0+1,_,by omega,by go_num,hbl2,hfrr.trans (((Fr.refl _ _ _ _).alloc _).trans hfr2),Lib.hid (by rw [Hr.out];exact HE2.out)⟩
    case measure=>simp [intOf];omega
end Go.Proofs.YtbmakifbppocaaaGreatDoor
set_option maxRecDepth 100000
namespace Go.Proofs.YtbmakifbppocaaaGreatDoor
open Go.RowKit
set_option maxHeartbeats 4000000 in
theorem show_group (B g:Nat) (acc:Str) (K:Int) (hK:K=5∨K=6) (c:Str) (ng:Bool) (ra:Option Addr) (rs:List (Str × Str)) (rn rc:Nat) (lo hi:Int) (lz:Bool) (ka:Option Addr) (y:Rx) (kc:Nat) (w:World)
  (ih:ShowC B g y) (hgT:1 < B)
  (hbl:Bld B g acc w) (hB:B≤w.heap.size) (ht:Tab w) (hx:RxSl w (· < B) ka 1 [y])
  (hlen:(acc++(Rx.mk K c ng rs lo hi lz [y]).tell).length≤10000000) :
  Calls Tryz.prog 63 #[.pointer (some ⟨g,0,none⟩),.agg #[.int .i64 K,.string ⟨(c).toArray⟩,.bool ng,.slice ra rn rc,.int .i64 lo,.int .i64 hi,.bool lz,.slice ka 1 kc]] w fun e w'=>ShwPost B g (acc++(Rx.mk K c ng rs lo hi lz [y]).tell) w e w':=by
 have IH:=Lib.hid ih
 clear ih
 rcases hK with rfl | rfl
 ·have HO:Hid (acc++(Rx.mk 5 c ng rs lo hi lz [y]).tell=acc++[40]++y.tell++[41]):=Lib.hid (by simp [Rx.tell,Rx.tellL])
  rw [HO.out] at hlen ⊢
  simp only [List.length_append,List.length_cons,List.length_nil] at hlen
  obtain ⟨yk,yc,yn,yr,yl,yh,yz,ys⟩:=y
  have hgl:=hbl.lt
  have hgB:=hbl.le
  obtain ⟨w0,hw0⟩:∃ w0,w0=w.alloc (.cells #[.int .i64 5,.string ⟨(c).toArray⟩,.bool ng,.slice ra rn rc,.int .i64 lo,.int .i64 hi,.bool lz,.slice ka 1 kc] 32):=⟨_,rfl⟩
  have hb0:Below w.heap.size w w0:=by rw [hw0];exact (Below.refl _ _).alloc (Nat.le_refl _) _
  have hbx0:w0.heap[w.heap.size]?=some (.cells #[.int .i64 5,.string ⟨(c).toArray⟩,.bool ng,.slice ra rn rc,.int .i64 lo,.int .i64 hi,.bool lz,.slice ka 1 kc] 32 (0,0)):=by rw [hw0];exact heap_alloc_new w _
  have HX:=Lib.hid (hx.keep (Kept.all hb0))
  have hbl0:Bld B g acc w0:=by rw [hw0];exact hbl.alloc _
  have htb:=ht.keep hb0
  have hB0:B≤w0.heap.size:=Nat.le_trans hB hb0.size
  have hf0:Fr B [g] [5] w w0:=Fr.of_below hb0 (Nat.le_refl _)
  have hBX0:=Lib.hid hbx0
  have HTB:=Lib.hid htb
  have HW0:=Lib.hid hw0
  clear hx ht htb hbl0 hw0
  obtain ⟨b,o,ya,yrc,yka,ykc,rfl,hS,hbB,_,_,hyv,c0,c1,c2,c3,c4,c5,c6,c7⟩:=HX.out.cells (m:=0) rfl
  have HYV:=Lib.hid hyv
  unfold rxc at HYV
  simp only [Nat.zero_mul,Nat.add_zero] at c0 c1 c2 c3 c4 c5 c6 c7
  have C:=Lib.hid (And.intro c0 (And.intro c1 (And.intro c2 (And.intro c3 (And.intro c4 (And.intro c5 (And.intro c6 c7)))))))
  clear c0 c1 c2 c3 c4 c5 c6 c7 hyv
  go_enter Tryz.func63,Tryz.ntmps63
  go_wp2_with (go_at_call 20;refine (WriteByte_any B _ (acc) 40 _ (hbl.alloc _) (by first | omega | (simp;done) | (simp;omega)) (by first | omega | (simp;done) | (simp;omega)) (by decide) (by decide)).mono ?_)
  first | rintro e w1 rfl hbl1 hfr1 | rintro e w1 ⟨rfl,hbl1,hfr1⟩
  rw [← HW0.out] at hfr1
  have hbx1:=hfr1.held hbx0 (by decide) (Nat.ne_of_gt hgl)
  have z0:w1.cell? ⟨w.heap.size,0,none⟩=some (.int .i64 5):=(by rw [Lib.cell_of_heap hbx1];rfl);have z7:w1.cell? ⟨w.heap.size,7,none⟩=some (.slice (some ⟨b,o,none⟩) 1 kc):=(by rw [Lib.cell_of_heap hbx1];rfl)
  have hB1:B≤w1.heap.size:=Nat.le_trans hB0 hfr1.size
  have hbw1:=hfr1.below hB0 (by simpa using hgB)
  have kb:b < B:=hS
  have kc0:∀ j u,w0.cell? ⟨b,o+j,none⟩=some u→w1.cell? ⟨b,o+j,none⟩=some u:=fun j u h=>((hbw1).cell (p:=⟨b,o+j,none⟩) kb).trans h
  have d0:w1.cell? ⟨b,o,none⟩=some (.int .i64 yk):=kc0 0 _ C.out.1
  have d1:=kc0 1 _ C.out.2.1
  have d2:=kc0 2 _ C.out.2.2.1
  have d3:=kc0 3 _ C.out.2.2.2.1
  have d4:=kc0 4 _ C.out.2.2.2.2.1
  have d5:=kc0 5 _ C.out.2.2.2.2.2.1
  have d6:=kc0 6 _ C.out.2.2.2.2.2.2.1
  have d7:=kc0 7 _ C.out.2.2.2.2.2.2.2
  clear kc0
  have HYV1:=Lib.hid (HYV.out.keep (Kept.fr hfr1 hB0 hgB))
  have HTB1:=Lib.hid (HTB.out.keepB hgT hbw1)
  have hfx:=hf0.trans hfr1
  clear hbx1 hfr1 hbx0
  go_wp2_with (go_at_call 63;refine (IH.out.at_ HYV1.out hbl1 hB1 HTB1.out rfl (by simp only [List.length_append,List.length_cons,List.length_nil];omega)).mono ?_)
  first | rintro e w2 rfl hbl2 hfr2 | rintro e w2 ⟨rfl,hbl2,hfr2⟩
  have hB2:B≤w2.heap.size:=Nat.le_trans hB1 hfr2.size
  go_wp2_with (go_at_call 20;refine (WriteByte_any B _ (acc++[40]++Rx.tell (.mk yk yc yn yr yl yh yz ys)) 41 _ (hbl2) (by first | omega | (simp;done) | (simp;omega)) (by first | omega | (simp;done) | (simp;omega)) (by decide) (by decide)).mono ?_)
  first | rintro e w3 rfl hbl3 hfr3 | rintro e w3 ⟨rfl,hbl3,hfr3⟩
  go_wp2_with fail
  go_end0
  exact ⟨rfl,hbl3,(hfx.trans hfr2).trans hfr3⟩
 ·have HO:Hid (acc++(Rx.mk 6 c ng rs lo hi lz [y]).tell=acc++[40]++[63,58]++y.tell++[41]):=Lib.hid (by simp [Rx.tell,Rx.tellL])
  rw [HO.out] at hlen ⊢
  simp only [List.length_append,List.length_cons,List.length_nil] at hlen
  obtain ⟨yk,yc,yn,yr,yl,yh,yz,ys⟩:=y
  have hgl:=hbl.lt
  have hgB:=hbl.le
  obtain ⟨w0,hw0⟩:∃ w0,w0=w.alloc (.cells #[.int .i64 6,.string ⟨(c).toArray⟩,.bool ng,.slice ra rn rc,.int .i64 lo,.int .i64 hi,.bool lz,.slice ka 1 kc] 32):=⟨_,rfl⟩
  have hb0:Below w.heap.size w w0:=by rw [hw0];exact (Below.refl _ _).alloc (Nat.le_refl _) _
  have hbx0:w0.heap[w.heap.size]?=some (.cells #[.int .i64 6,.string ⟨(c).toArray⟩,.bool ng,.slice ra rn rc,.int .i64 lo,.int .i64 hi,.bool lz,.slice ka 1 kc] 32 (0,0)):=by rw [hw0];exact heap_alloc_new w _
  have HX:=Lib.hid (hx.keep (Kept.all hb0))
  have hbl0:Bld B g acc w0:=by rw [hw0];exact hbl.alloc _
  have htb:=ht.keep hb0
  have hB0:B≤w0.heap.size:=Nat.le_trans hB hb0.size
  have hf0:Fr B [g] [5] w w0:=Fr.of_below hb0 (Nat.le_refl _)
  have hBX0:=Lib.hid hbx0
  have HTB:=Lib.hid htb
  have HW0:=Lib.hid hw0
  clear hx ht htb hbl0 hw0
  obtain ⟨b,o,ya,yrc,yka,ykc,rfl,hS,hbB,_,_,hyv,c0,c1,c2,c3,c4,c5,c6,c7⟩:=HX.out.cells (m:=0) rfl
  have HYV:=Lib.hid hyv
  unfold rxc at HYV
  simp only [Nat.zero_mul,Nat.add_zero] at c0 c1 c2 c3 c4 c5 c6 c7
  have C:=Lib.hid (And.intro c0 (And.intro c1 (And.intro c2 (And.intro c3 (And.intro c4 (And.intro c5 (And.intro c6 c7)))))))
  clear c0 c1 c2 c3 c4 c5 c6 c7 hyv
  go_enter Tryz.func63,Tryz.ntmps63
  go_wp2_with (go_at_call 20;refine (WriteByte_any B _ (acc) 40 _ (hbl.alloc _) (by first | omega | (simp;done) | (simp;omega)) (by first | omega | (simp;done) | (simp;omega)) (by decide) (by decide)).mono ?_)
  first | rintro e w1 rfl hbl1 hfr1 | rintro e w1 ⟨rfl,hbl1,hfr1⟩
  rw [← HW0.out] at hfr1
  have hbx1:=hfr1.held hbx0 (by decide) (Nat.ne_of_gt hgl)
  have z0:w1.cell? ⟨w.heap.size,0,none⟩=some (.int .i64 6):=(by rw [Lib.cell_of_heap hbx1];rfl)
  have hB1:B≤w1.heap.size:=Nat.le_trans hB0 hfr1.size
  have hfx:=hf0.trans hfr1
  have HBX1:=Lib.hid hbx1
  have HFA:=Lib.hid hfr1
  clear hbx1 hfr1 hbx0
  go_wp2_with (go_at_call 18;refine (WriteString_any B _ (acc++[40]) _ _ (hbl1) (by first | omega | (simp;done) | (simp;omega)) (by first | omega | (simp;done) | (simp;omega)) (by first | omega | (simp;done) | (simp;omega))).mono ?_)
  first | rintro e w1b rfl hbl1b hfr1b | rintro e w1b ⟨rfl,hbl1b,hfr1b⟩
  have hbx1b:=hfr1b.held HBX1.out (by decide) (Nat.ne_of_gt hgl)
  have z7:w1b.cell? ⟨w.heap.size,7,none⟩=some (.slice (some ⟨b,o,none⟩) 1 kc):=(by rw [Lib.cell_of_heap hbx1b];rfl)
  have hB1b:B≤w1b.heap.size:=Nat.le_trans hB1 hfr1b.size
  have hfrA:=HFA.out.trans hfr1b
  have hbw1:=hfrA.below hB0 (by simpa using hgB)
  have kb:b < B:=hS
  have kc0:∀ j u,w0.cell? ⟨b,o+j,none⟩=some u→w1b.cell? ⟨b,o+j,none⟩=some u:=fun j u h=>((hbw1).cell (p:=⟨b,o+j,none⟩) kb).trans h
  have d0:w1b.cell? ⟨b,o,none⟩=some (.int .i64 yk):=kc0 0 _ C.out.1
  have d1:=kc0 1 _ C.out.2.1
  have d2:=kc0 2 _ C.out.2.2.1
  have d3:=kc0 3 _ C.out.2.2.2.1
  have d4:=kc0 4 _ C.out.2.2.2.2.1
  have d5:=kc0 5 _ C.out.2.2.2.2.2.1
  have d6:=kc0 6 _ C.out.2.2.2.2.2.2.1
  have d7:=kc0 7 _ C.out.2.2.2.2.2.2.2
  clear kc0
  have HYV1:=Lib.hid (HYV.out.keep (Kept.fr hfrA hB0 hgB))
  have HTB1:=Lib.hid (HTB.out.keepB hgT hbw1)
  have hfxb:=hfx.trans hfr1b
  clear hbx1b hfr1b hfrA
  go_wp2_with (go_at_call 63;refine (IH.out.at_ HYV1.out hbl1b hB1b HTB1.out rfl (by simp only [List.length_append,List.length_cons,List.length_nil];omega)).mono ?_)
  first | rintro e w2 rfl hbl2 hfr2 | rintro e w2 ⟨rfl,hbl2,hfr2⟩
  have hB2:B≤w2.heap.size:=Nat.le_trans hB1b hfr2.size
  go_wp2_with (go_at_call 20;refine (WriteByte_any B _ (acc++[40]++[63,58]++Rx.tell (.mk yk yc yn yr yl yh yz ys)) 41 _ (hbl2) (by first | omega | (simp;done) | (simp;omega)) (by first | omega | (simp;done) | (simp;omega)) (by decide) (by decide)).mono ?_)
  first | rintro e w3 rfl hbl3 hfr3 | rintro e w3 ⟨rfl,hbl3,hfr3⟩
  go_wp2_with fail
  go_end0
  exact ⟨rfl,hbl3,(hfxb.trans hfr2).trans hfr3⟩
theorem often_eq {lo hi:Int} (w:World) (h0:0≤lo) (h1:lo≤255) (h2:hi=-1∨lo≤hi∧hi≤255) (ht:Tab w) :
  Calls Tryz.prog 83 #[.int .i64 lo,.int .i64 hi] w fun e w'=>e=.returned (.string ⟨(oftS lo hi).toArray⟩)∧Below w.heap.size w w':=often_any lo hi w h0 h1 h2 ht
set_option maxHeartbeats 4000000 in
theorem show_rep (B g:Nat) (acc:Str) (c:Str) (ng:Bool) (ra:Option Addr) (rs:List (Str × Str)) (rn rc:Nat) (lo hi:Int) (lz:Bool) (ka:Option Addr) (y:Rx) (kc:Nat) (w:World)
  (ih:ShowC B g y) (hgT:1 < B) (h0:0≤lo) (h1:lo≤255) (h2:hi=-1∨lo≤hi∧hi≤255)
  (hbl:Bld B g acc w) (hB:B≤w.heap.size) (ht:Tab w) (hx:RxSl w (· < B) ka 1 [y])
  (hlen:(acc++(Rx.mk 7 c ng rs lo hi lz [y]).tell).length≤10000000) :
  Calls Tryz.prog 63 #[.pointer (some ⟨g,0,none⟩),.agg #[.int .i64 7,.string ⟨(c).toArray⟩,.bool ng,.slice ra rn rc,.int .i64 lo,.int .i64 hi,.bool lz,.slice ka 1 kc]] w fun e w'=>ShwPost B g (acc++(Rx.mk 7 c ng rs lo hi lz [y]).tell) w e w':=by
 have IH:=Lib.hid ih
 have H2:=Lib.hid h2
 have HO:Hid (acc++(Rx.mk 7 c ng rs lo hi lz [y]).tell=acc++y.tell++oftS lo hi++(if lz=true then [63] else [])):=Lib.hid (by simp [Rx.tell,Rx.tellL])
 rw [HO.out] at hlen ⊢
 have hl3:acc.length+y.tell.length+(oftS lo hi).length≤10000000:=by simp only [List.length_append] at hlen;omega
 clear ih h2 hlen
 obtain ⟨yk,yc,yn,yr,yl,yh,yz,ys⟩:=y
 have hgl:=hbl.lt
 have hgB:=hbl.le
 obtain ⟨w0,hw0⟩:∃ w0,w0=w.alloc (.cells #[.int .i64 7,.string ⟨(c).toArray⟩,.bool ng,.slice ra rn rc,.int .i64 lo,.int .i64 hi,.bool lz,.slice ka 1 kc] 32):=⟨_,rfl⟩
 have hb0:Below w.heap.size w w0:=by rw [hw0];exact (Below.refl _ _).alloc (Nat.le_refl _) _
 have hbx0:w0.heap[w.heap.size]?=some (.cells #[.int .i64 7,.string ⟨(c).toArray⟩,.bool ng,.slice ra rn rc,.int .i64 lo,.int .i64 hi,.bool lz,.slice ka 1 kc] 32 (0,0)):=by rw [hw0];exact heap_alloc_new w _
 obtain ⟨b,o,ya,yrc,yka,ykc,rfl,hS,hbB,_,_,hyv,c0,c1,c2,c3,c4,c5,c6,c7⟩:=hx.cells (m:=0) rfl
 simp only [Nat.zero_mul,Nat.add_zero] at c0 c1 c2 c3 c4 c5 c6 c7
 have HYV:=Lib.hid (hyv.later hb0)
 unfold rxc at HYV
 have HTB:=Lib.hid (ht.keep hb0)
 have hB0:B≤w0.heap.size:=Nat.le_trans hB hb0.size
 have hf0:Fr B [g] [5] w w0:=Fr.of_below hb0 (Nat.le_refl _)
 have HBX0:=Lib.hid hbx0
 have HBL0:Hid (Bld B g acc w0):=Lib.hid (by rw [hw0];exact hbl.alloc _)
 rw [hw0] at HYV HTB HBL0
 have HW0:=Lib.hid hw0
 clear hx ht hw0 hyv hbx0
 go_enter Tryz.func63,Tryz.ntmps63
 go_wp2_with (go_at_call 63;refine (IH.out.at_ HYV.out HBL0.out (by simp;omega) HTB.out rfl (by simp only [List.length_append];omega)).mono ?_)
 first | rintro e w1 rfl hbl1 hfr1 | rintro e w1 ⟨rfl,hbl1,hfr1⟩
 rw [← HW0.out] at hfr1
 have hbx1:=hfr1.held HBX0.out (by decide) (Nat.ne_of_gt hgl)
 have z4:w1.cell? ⟨w.heap.size,4,none⟩=some (.int .i64 lo):=(by rw [Lib.cell_of_heap hbx1];rfl);have z5:w1.cell? ⟨w.heap.size,5,none⟩=some (.int .i64 hi):=(by rw [Lib.cell_of_heap hbx1];rfl)
 have hB1:B≤w1.heap.size:=Nat.le_trans hB0 hfr1.size
 have hbw1:=hfr1.below hB0 (by simpa using hgB)
 have HTB1:=Lib.hid ((show Tab w0 by rw [HW0.out];exact HTB.out).keepB hgT hbw1)
 have hfx:=hf0.trans hfr1
 have HBX1:=Lib.hid hbx1
 have hgl1:=hbl1.lt
 clear hbx1 hfr1
 go_wp2_with (go_at_call 83;refine (often_eq _ h0 h1 H2.out HTB1.out).mono ?_)
 first | rintro e w2 rfl hb2 | rintro e w2 ⟨rfl,hb2⟩
 have hbl2:=hbl1.below hb2
 have hB2:B≤w2.heap.size:=Nat.le_trans hB1 hb2.size
 have hfx2:Fr B [g] [5] w w2:=hfx.trans (Fr.of_below hb2 (Nat.le_refl _))
 have HBX2:Hid (w2.heap[w.heap.size]?=some (.cells #[.int .i64 7,.string ⟨(c).toArray⟩,.bool ng,.slice ra rn rc,.int .i64 lo,.int .i64 hi,.bool lz,.slice (some ⟨b,o,none⟩) 1 kc] 32 (0,0))):=Lib.hid ((hb2.block _ (heap_lt HBX1.out)).trans HBX1.out)
 clear hb2
 go_wp2_with (go_at_call 18;refine (WriteString_any B _ (acc++Rx.tell (.mk yk yc yn yr yl yh yz ys)) _ _ (hbl2) (by first | omega | (simp;done) | (simp;omega)) (by first | omega | (simp;done) | (simp;omega)) (by first | omega | (simp;done) | (simp;omega))).mono ?_)
 first | rintro e w3 rfl hbl3 hfr3 | rintro e w3 ⟨rfl,hbl3,hfr3⟩
 have hbx3:=hfr3.held HBX2.out (by decide) (Nat.ne_of_gt hgl)
 have z6:w3.cell? ⟨w.heap.size,6,none⟩=some (.bool lz):=(by rw [Lib.cell_of_heap hbx3];rfl)
 have hB3:B≤w3.heap.size:=Nat.le_trans hB2 hfr3.size
 have hfx3:=hfx2.trans hfr3
 clear hbx3 hfr3
 cases lz with
 | false =>
  go_wp2
  go_end0
  exact ⟨rfl,by simpa using hbl3,hfx3⟩
 | true =>
  go_wp2_with (go_at_call 20;refine (WriteByte_any B _ (acc++Rx.tell (.mk yk yc yn yr yl yh yz ys)++oftS lo hi) 63 _ (hbl3) (by first | omega | (simp;done) | (simp;omega)) (by first | omega | (simp;done) | (simp;omega)) (by decide) (by decide)).mono ?_)
  first | rintro e w4 rfl hbl4 hfr4 | rintro e w4 ⟨rfl,hbl4,hfr4⟩
  go_wp2_with fail
  go_end0
  exact ⟨rfl,by simpa using hbl4,hfx3.trans hfr4⟩
theorem len1 {α:Type} {l:List α} (h:l.length=1):∃ a,l=[a]:=by
 match l,h with
 | [a],_=>exact ⟨a,rfl⟩
theorem show_any (B g:Nat) (hgT:1 < B):∀ (N:Nat) (x:Rx),x.parts≤N→x.small→x.wf=true→ShowC B g x
 | 0,x,h,_,_=>by have:=Rx.parts_pos x;omega
 | N+1,.mk k c ng rs lo hi lz ks,h,hsm,hwf=>by
  intro cc acc w hv hbl hB ht hlen
  obtain ⟨ra,rc,ka,kc,rfl,hrs,hx⟩:=hv.open_
  obtain ⟨⟨s1,s2,s3,s4⟩,hsmL⟩:=hsm
  obtain ⟨hf,hwl⟩:=wf_mk hwf
  simp only [Rx.parts] at h
  have ih:∀ y ∈ ks,ShowC B g y:=fun y hy=>show_any B g hgT N y (by have:=Rx.parts_mem hy;omega) (smallL_mem hsmL hy) (wfL_mem hwl hy)
  have hrB:Sl w B ra 2 rs.length (rcells rs):=⟨hrs.1,fun hn=>by
   obtain ⟨b,o,e1,e2,_,e4⟩:=hrs.2 hn
   exact ⟨b,o,e1,e2,e4⟩⟩
  have hal:acc.length≤10000000:=by simp only [List.length_append] at hlen;omega
  unfold rxc
  rcases kind_le hf with rfl | rfl | rfl | rfl | rfl | rfl | rfl | rfl | rfl | rfl | rfl | rfl
  ·exact show_seq B g acc c ng ra rs _ rc lo hi lz ka ks kc w ih hgT hbl hB ht hx s4 (by simpa [Rx.tell,tlF] using hlen)
  ·exact show_alt B g acc c ng ra rs _ rc lo hi lz ka ks kc w ih hgT hbl hB ht hx s4 (by simpa [Rx.tell,taF] using hlen)
  ·have hp:properB c=true:=by simp [fieldsB] at hf;exact hf.2
   exact show_char B g acc c ng ra rs _ rc lo hi lz ka ks _ kc w hbl hB hal (proper_ne hp) s1
  ·exact show_const B g acc 3 (by simp) c ng ra rs _ rc lo hi lz ka ks _ kc w hbl hB hal
  ·have hp:rowsB rs=true:=by simp [fieldsB] at hf;exact hf.2
   exact show_set B g acc c ng ra rs rc lo hi lz ka ks _ kc w hbl hB hrB (rows_ne hp) s3 s2 (by simpa [Rx.tell] using hlen)
  ·have h1:ks.length=1:=by simp [fieldsB] at hf;exact hf.2
   obtain ⟨y,rfl⟩:=len1 h1
   exact show_group B g acc 5 (.inl rfl) c ng ra rs _ rc lo hi lz ka y kc w (ih y (by simp)) hgT hbl hB ht hx hlen
  ·have h1:ks.length=1:=by simp [fieldsB] at hf;exact hf.2
   obtain ⟨y,rfl⟩:=len1 h1
   exact show_group B g acc 6 (.inr rfl) c ng ra rs _ rc lo hi lz ka y kc w (ih y (by simp)) hgT hbl hB ht hx hlen
  ·simp only [fieldsB] at hf
   rw [if_neg (by decide),if_neg (by decide),if_pos trivial] at hf
   simp only [Bool.and_eq_true,decide_eq_true_eq] at hf
   obtain ⟨⟨_,h1⟩,h2,h3,h4⟩:=hf
   match ks,h1 with
   | [y],_=>exact show_rep B g acc c ng ra rs _ rc lo hi lz ka y kc w (ih y (by simp)) hgT h2 h3 h4 hbl hB ht hx hlen
  ·exact show_const B g acc 8 (by simp) c ng ra rs _ rc lo hi lz ka ks _ kc w hbl hB hal
  ·exact show_const B g acc 9 (by simp) c ng ra rs _ rc lo hi lz ka ks _ kc w hbl hB hal
  ·exact show_const B g acc 10 (by simp) c ng ra rs _ rc lo hi lz ka ks _ kc w hbl hB hal
  ·exact show_const B g acc 11 (by simp) c ng ra rs _ rc lo hi lz ka ks _ kc w hbl hB hal
end Go.Proofs.YtbmakifbppocaaaGreatDoor
set_option maxRecDepth 100000
namespace Go.Proofs.YtbmakifbppocaaaGreatDoor
open Go.RowKit
set_option maxHeartbeats 1000000 in
theorem Show_yes (S:Nat→Prop) (x:Rx) (cc:List Value) (w:World) (hm:x.parts≤1000000) (hsm:x.small) (hv:RxV w S cc x) (ht:Tab w) (hmay:mayB x=true) (hlen:x.tell.length≤10000000) :
  Calls Tryz.prog 45 #[.agg cc.toArray] w fun e w'=>e=.returned (.tuple #[.string ⟨(x.tell).toArray⟩,.int .i64 0])∧Below w.heap.size w w':=by
 have hwf:x.wf=true:=by
  have h:=hmay;simp only [mayB,okB,Bool.and_eq_true] at h;exact h.1.1
 obtain ⟨k,c,ng,rs,lo,hi,lz,ks⟩:=x
 obtain ⟨ra,rc,ka,kc,rfl,hrs,hx⟩:=hv.open_
 obtain ⟨w0,hw0⟩:∃ w0,w0=w.alloc (.cells #[.int .i64 k,.string ⟨(c).toArray⟩,.bool ng,.slice ra rs.length rc,.int .i64 lo,.int .i64 hi,.bool lz,.slice ka ks.length kc] 32):=⟨_,rfl⟩
 have hb0:Below w.heap.size w w0:=by rw [hw0];exact (Below.refl _ _).alloc (Nat.le_refl _) _
 have hbx0:w0.heap[w.heap.size]?=some (.cells #[.int .i64 k,.string ⟨(c).toArray⟩,.bool ng,.slice ra rs.length rc,.int .i64 lo,.int .i64 hi,.bool lz,.slice ka ks.length kc] 32 (0,0)):=by rw [hw0];exact heap_alloc_new w _
 have HV0:=Lib.hid (hv.later hb0).any
 have HTB:=Lib.hid (ht.keep hb0)
 have HSM:=Lib.hid hsm
 have HMAY:=Lib.hid hmay
 have HWF:=Lib.hid hwf
 have HBX0:=Lib.hid hbx0
 have HLEN:=Lib.hid hlen
 have HM:=Lib.hid hm
 rw [hw0] at HV0
 have HW0:=Lib.hid hw0
 clear hv hrs hx hsm hmay hwf ht hbx0 hw0 hlen hm
 unfold rxc at HV0 ⊢
 go_enter Tryz.func45,Tryz.ntmps45
 go_wp2_with (go_at_call 61;refine (RxMay_any Any _ _ _ HM.out HSM.out HV0.out).mono ?_)
 first | rintro e w1 rfl hb1 | rintro e w1 ⟨rfl,hb1⟩
 rw [HMAY.out]
 have hb1':Below w0.heap.size w0 w1:=by rw [HW0.out];exact hb1.mono (by simp)
 have HV1:=Lib.hid ((show RxV w0 Any _ _ by rw [HW0.out];exact HV0.out).later hb1')
 have HTB1:=Lib.hid (HTB.out.keep hb1')
 have hbx1:=(hb1'.block _ (heap_lt HBX0.out)).trans HBX0.out
 have hbw1:Below w.heap.size w w1:=hb0.trans (hb1'.mono hb0.size)
 have hz1:=hbw1.size
 have hl1:=heap_lt hbx1
 have e0:w1.cell? ⟨w.heap.size,0,none⟩=some (.int .i64 k):=by rw [Lib.cell_of_heap hbx1];rfl
 have e1:w1.cell? ⟨w.heap.size,1,none⟩=some (.string ⟨(c).toArray⟩):=by rw [Lib.cell_of_heap hbx1];rfl
 have e2:w1.cell? ⟨w.heap.size,2,none⟩=some (.bool ng):=by rw [Lib.cell_of_heap hbx1];rfl
 have e3:w1.cell? ⟨w.heap.size,3,none⟩=some (.slice ra rs.length rc):=by rw [Lib.cell_of_heap hbx1];rfl
 have e4:w1.cell? ⟨w.heap.size,4,none⟩=some (.int .i64 lo):=by rw [Lib.cell_of_heap hbx1];rfl
 have e5:w1.cell? ⟨w.heap.size,5,none⟩=some (.int .i64 hi):=by rw [Lib.cell_of_heap hbx1];rfl
 have e6:w1.cell? ⟨w.heap.size,6,none⟩=some (.bool lz):=by rw [Lib.cell_of_heap hbx1];rfl
 have e7:w1.cell? ⟨w.heap.size,7,none⟩=some (.slice ka ks.length kc):=by rw [Lib.cell_of_heap hbx1];rfl
 have HV2:=Lib.hid ((HV1.out.mono (S':=(· < w1.heap.size)) (fun _ _ h=>h)).later ((Below.refl _ _).alloc (Nat.le_refl _) (.cells #[.pointer none,.slice none 0 0] 43)))
 have HTB2:=Lib.hid (HTB1.out.keep ((Below.refl _ _).alloc (Nat.le_refl _) (.cells #[.pointer none,.slice none 0 0] 43)))
 have hgT:=HTB1.out.lt
 clear hb1 hbx1
 go_wp2_with (go_at_call 63;refine ((show_any w1.heap.size w1.heap.size hgT _ _ (Nat.le_refl _) HSM.out HWF.out).at_ (acc:=[]) HV2.out (Bld.fresh _ _ (Nat.le_refl _)) (by simp) HTB2.out (List.nil_append _) HLEN.out).mono ?_)
 first | rintro e w2 rfl hbl2 hfr2 | rintro e w2 ⟨rfl,hbl2,hfr2⟩
 have hB2:w1.heap.size≤w2.heap.size:=by have:=hfr2.size;simp at this;omega
 have hbw2:Below w1.heap.size w1 w2:=((Below.refl _ _).alloc (Nat.le_refl _) _).trans (hfr2.below (by simp) (by simp))
 go_wp2_with (go_at_call 11;refine (String_any _ _ _ _ hbl2 hB2).mono ?_;rintro e w3 ⟨rfl,hb3⟩)
 go_ret2
 exact ⟨rfl,hbw1.trans ((hbw2.trans hb3).mono hz1)⟩
end Go.Proofs.YtbmakifbppocaaaGreatDoor
set_option maxRecDepth 100000
namespace Go.Proofs.YtbmakifbppocaaaGreatDoor
open Go.RowKit
def QuRel (th l:Str) (g:Nat) (w0:World) (R:Str) (q:Value) (wr:World):Prop :=
 ∃ (i:Nat) (acc:Str),i≤l.length∧q=.int .i64 i∧Bld w0.heap.size g acc wr∧Below w0.heap.size w0 wr∧acc.length≤2 * i∧Hid (acc++quot th (l.drop i)=R)
set_option maxHeartbeats 2000000 in
theorem quoted_any (l th:Str) (w:World) (hs:l.length≤1000000) :
  Calls Tryz.prog 64 #[.string ⟨(l).toArray⟩,.string ⟨(th).toArray⟩] w fun e w'=>e=.returned (.string ⟨(quot th l).toArray⟩)∧Below w.heap.size w w':=by
 generalize hR:quot th l=R
 have HR:=Lib.hid hR
 clear hR
 have HR0:Hid ([]++quot th (l.drop 0)=R):=HR
 clear HR
 go_enter Tryz.func64,Tryz.ntmps64
 go_wp2
 go_loopw [6] (fun q wr=>QuRel th l w.heap.size w R q wr) (fun q _=>l.length - (intOf q).toNat)
 case atStart=>exact ⟨0,[],by omega,rfl,Bld.fresh _ _ (Nat.le_refl _),(Below.refl _ _).alloc (Nat.le_refl _) _,by simp,HR0⟩
 case round =>
  obtain ⟨i,acc,hi,rfl,hbl,hb,hacc,HF⟩:=hrel
  clear HR0
  have hB:=hb.size
  cases hd:l.drop i with
  | nil =>
   have h2:=drop_nil hd
   have HF':Hid (acc=R):=Lib.hid (by rw [← HF.out,hd];simp [quot])
   clear hd HF
   go_wp2_with (go_at_call 11;refine (String_any _ _ _ _ hbl hB).mono ?_;rintro e w1 ⟨rfl,hb1⟩)
   go_ret
   exact ⟨ret_str HF'.out,hb.trans hb1⟩
  | cons c r =>
   obtain ⟨h2,h3,hr⟩:=drop_cons hd
   have HF':Hid (acc++((if th.contains c=true then [92,c] else [c])++quot th r)=R):=Lib.hid (by rw [← HF.out,hd];rfl)
   have Hr:=Lib.hid hr
   have hc256:=u8_lt c
   clear hd HF hr
   by_cases hc:th.contains c=true
   ·obtain ⟨k,hk⟩:=idx_hit hc
    have HK:=Lib.hid hk
    have HC:=Lib.hid hc
    clear hk hc
    go_wp2_with (first | (go_at_call 28;refine (IndexByte_eq _ HK.out).mono ?_;rintro e w1 ⟨rfl,rfl⟩) | (go_at_call 20;refine (WriteByte_any w.heap.size _ (acc) (92) _ hbl (by first | omega | (simp;omega)) (by omega) (by omega) (by omega)).mono ?_))
    rintro e w2 ⟨rfl,hbl2,hfr2⟩
    have hb2:=hb.trans (hfr2.below hB (by simp))
    have hB2:=hb2.size
    go_wp2_with (go_at_call 20;refine (WriteByte_any w.heap.size _ (acc++[92]) ((c.toNat:Int)) _ hbl2 (by first | omega | (simp;omega)) (by omega) (by omega) (by omega)).mono ?_)
    rintro e w3 ⟨rfl,hbl3,hfr3⟩
    go_wp2_with fail
    go_roundw
    case rel =>
     refine ⟨i+1,acc++[92,c],by omega,by go_num,?_,hb2.trans (hfr3.below hB2 (by simp)),by simp;omega,Lib.hid ?_⟩
     ·simpa using hbl3
     ·rw [Hr.out,← HF'.out,if_pos HC.out];simp
    case measure=>simp [intOf];omega
   ·have hk:=idx_miss hc
    have HK:=Lib.hid hk
    have HC:=Lib.hid hc
    clear hk hc
    go_wp2_with (first | (go_at_call 28;refine (IndexByte_eq _ HK.out).mono ?_;rintro e w1 ⟨rfl,rfl⟩) | (go_at_call 20;refine (WriteByte_any w.heap.size _ (acc) ((c.toNat:Int)) _ hbl (by first | omega | (simp;omega)) (by omega) (by omega) (by omega)).mono ?_))
    rintro e w2 ⟨rfl,hbl2,hfr2⟩
    go_wp2_with fail
    go_roundw
    case rel =>
     refine ⟨i+1,acc++[c],by omega,by go_num,?_,hb.trans (hfr2.below hB (by simp)),by simp;omega,Lib.hid ?_⟩
     ·simpa using hbl2
     ·rw [Hr.out,← HF'.out,if_neg HC.out];simp
    case measure=>simp [intOf];omega
end Go.Proofs.YtbmakifbppocaaaGreatDoor
set_option maxRecDepth 100000
namespace Go.Proofs.YtbmakifbppocaaaGreatDoor
theorem mayL_all:∀ (pt:Bool) (fs:List Fm),mayL pt fs=true→∀ f ∈ fs,mayF f=true
 | _,[],_,f,hf=>by simp at hf
 | pt,g :: r,h,f,hf=>by
  simp only [mayL,Bool.and_eq_true] at h
  rcases List.mem_cons.1 hf with rfl | hf
  ·exact h.1.1
  ·exact mayL_all _ r h.2 f hf
theorem mayF_n {f:Fm} (h:mayF f=true):0≤f.n∧f.n≤9999:=by
 unfold mayF at h;rw [Bool.and_eq_true] at h;simpa using h.1
theorem mayF_kind {f:Fm} (h:mayF f=true):f.kind=0∨f.kind=1∨f.kind=2∨f.kind=3∨f.kind=4∨f.kind=5:=by
 unfold mayF at h;rw [Bool.and_eq_true] at h
 have h2:=h.2
 by_cases h0:f.kind=0
 ·exact .inl h0
 by_cases h1:f.kind=1
 ·exact .inr (.inl h1)
 by_cases h3:f.kind=2
 ·exact .inr (.inr (.inl h3))
 by_cases h4:f.kind=3
 ·exact .inr (.inr (.inr (.inl h4)))
 by_cases h5:f.kind=4
 ·exact .inr (.inr (.inr (.inr (.inl h5))))
 by_cases h6:f.kind=5
 ·exact .inr (.inr (.inr (.inr (.inr h6))))
 rw [if_neg h0,if_neg h1,if_neg h3,if_neg h4,if_neg h5,if_neg h6] at h2;cases h2
end Go.Proofs.YtbmakifbppocaaaGreatDoor
