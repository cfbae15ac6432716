/- walks of the references: ref13.Parts, Deep -/
import Derived.Test.YtbmakifbppocaaaGreatDoorSs1
import Derived.Test.YtbmakifbppocaaaGreatDoorSs2
import Derived.Test.YtbmakifbppocaaaGreatDoorSs5
import Derived.Test.YtbmakifbppocaaaGreatDoorSs8
import Derived.Test.YtbmakifbppocaaaGreatDoorSs3
set_option maxRecDepth 100000
namespace Go.Proofs.YtbmakifbppocaaaGreatDoor
open Go.RowKit
set_option maxHeartbeats 1000000 in
theorem RParts_any (S:Nat→Prop):∀ (N:Nat) (x:Rx),x.parts≤N→x.parts≤1000000→∀ (cc:List Value) (w:World),RxV w S cc x →
  Calls Tryz.prog 66 #[.agg cc.toArray] w fun e w'=>e=.returned (.int .i64 x.parts)∧Below w.heap.size w w'
 | 0,x,h,_,_,_,_=>by have:=Rx.parts_pos x;omega
 | N+1,.mk k c ng rs lo hi lz ks,h,hm,cc,w,hv=>by
  obtain ⟨ra,rc,ka,kc,rfl,hrs,hx⟩:=hv.open_
  simp only [Rx.parts] at h hm
  have hlen:=Rx.len_parts ks
  have hdl:=deepL_parts ks
  have ih:=fun (y:Rx) (hy:y.parts≤Rx.partsL ks)=>RParts_any S N y (by omega) (by omega)
  have IH:=Lib.hid ih
  obtain ⟨w0,hw0⟩:∃ w0,w0=w.alloc (.cells #[.int .i64 k,.string ⟨(c).toArray⟩,.bool ng,.slice ra rs.length rc,.int .i64 lo,.int .i64 hi,.bool lz,.slice ka ks.length kc] 32):=⟨_,rfl⟩
  have hb0:Below w.heap.size w w0:=by rw [hw0];exact (Below.refl _ _).alloc (Nat.le_refl _) _
  have HX:=Lib.hid (hx.later hb0)
  have Z0:Hid (w0.cell? ⟨w.heap.size,0,none⟩=some (.int .i64 k)):=Lib.hid (by rw [hw0];simp)
  have Z7:Hid (w0.cell? ⟨w.heap.size,7,none⟩=some (.slice ka ks.length kc)):=Lib.hid (by rw [hw0];simp)
  clear hx hv hrs ih
  unfold rxc
  obtain ⟨R,hR⟩:∃ R,(Rx.mk k c ng rs lo hi lz ks).parts=R:=⟨_,rfl⟩
  have hR6:R≤1000000:=by rw [← hR];simp only [Rx.parts];omega
  have HR0:Hid (1+Rx.partsL (ks.drop 0)=R):=Lib.hid hR
  rw [hR]
  clear hR
  go_enter Tryz.func66,Tryz.ntmps66
  go_wp2
  rw [← hw0]
  clear hw0
  go_loopw [3,4] (fun t q wr=>SumRel ks Rx.partsL (·+·) R w0 t q wr) (fun _ q _=>ks.length - (intOf q).toNat)
  case atStart=>exact ⟨0,1,by omega,rfl,rfl,by omega,Below.refl _ _,HR0⟩
  case round =>
   obtain ⟨i,d,hi,rfl,rfl,hd9,hb,HF⟩:=hrel
   clear HR0
   have hB:=hb.size
   have z7:=cell_kept hb _ _ Z7.out
   cases hd:ks.drop i with
   | nil =>
    have h2:ks.length≤i:=by simpa using hd
    have HE:Hid (d=R):=Lib.hid (by rw [← HF.out,hd];simp [Rx.partsL])
    clear hd HF
    have hbb:=hb0.trans (hb.mono hb0.size)
    go_wp2
    go_ret
    exact ⟨ret_int (by have:=HE.out;omega),hbb⟩
   | cons y r =>
    obtain ⟨h2,h3,hr⟩:=ldrop_cons hd
    obtain ⟨yk,yc,yn,yr,yl,yh,yz,ys⟩:=y
    obtain ⟨b,o,ya,yrc,yka,ykc,rfl,hS,hbB,_,_,hyv,c0,c1,c2,c3,c4,c5,c6,c7⟩:=(HX.out.later hb).cells h3
    have hyp:=Rx.parts_mem (List.mem_of_getElem? h3)
    have Hr:=Lib.hid hr
    have HYV:=Lib.hid hyv
    unfold rxc at HYV
    have HE:Hid (d+(Rx.parts (.mk yk yc yn yr yl yh yz ys)+Rx.partsL r)=R):=Lib.hid (by rw [← HF.out,hd];rfl)
    have hle:d+Rx.parts (.mk yk yc yn yr yl yh yz ys)≤1000000:=by have:=HE.out;omega
    clear hd HF hr h3 hyv
    go_wp2_with (go_at_call 66;refine (IH.out _ hyp _ _ HYV.out).mono ?_;rintro e w1 ⟨rfl,hb1⟩)
    go_roundw
    case rel=>exact ⟨i+1,d+Rx.parts (.mk yk yc yn yr yl yh yz ys),by omega,by go_num,by go_num,by omega,hb.trans (hb1.mono hB),Lib.hid (by rw [Hr.out];have h:=HE.out;show d+Rx.parts (.mk yk yc yn yr yl yh yz ys)+Rx.partsL r=R;omega)⟩
    case measure=>simp [intOf];omega
set_option maxHeartbeats 1000000 in
theorem RDeep_any (S:Nat→Prop):∀ (N:Nat) (x:Rx),x.parts≤N→x.parts≤1000000→∀ (cc:List Value) (w:World),RxV w S cc x →
  Calls Tryz.prog 67 #[.agg cc.toArray] w fun e w'=>e=.returned (.int .i64 x.deep)∧Below w.heap.size w w'
 | 0,x,h,_,_,_,_=>by have:=Rx.parts_pos x;omega
 | N+1,.mk k c ng rs lo hi lz ks,h,hm,cc,w,hv=>by
  obtain ⟨ra,rc,ka,kc,rfl,hrs,hx⟩:=hv.open_
  simp only [Rx.parts] at h hm
  have hlen:=Rx.len_parts ks
  have hdl:=deepL_parts ks
  have ih:=fun (y:Rx) (hy:y.parts≤Rx.partsL ks)=>RDeep_any S N y (by omega) (by omega)
  have IH:=Lib.hid ih
  obtain ⟨w0,hw0⟩:∃ w0,w0=w.alloc (.cells #[.int .i64 k,.string ⟨(c).toArray⟩,.bool ng,.slice ra rs.length rc,.int .i64 lo,.int .i64 hi,.bool lz,.slice ka ks.length kc] 32):=⟨_,rfl⟩
  have hb0:Below w.heap.size w w0:=by rw [hw0];exact (Below.refl _ _).alloc (Nat.le_refl _) _
  have HX:=Lib.hid (hx.later hb0)
  have Z0:Hid (w0.cell? ⟨w.heap.size,0,none⟩=some (.int .i64 k)):=Lib.hid (by rw [hw0];simp)
  have Z7:Hid (w0.cell? ⟨w.heap.size,7,none⟩=some (.slice ka ks.length kc)):=Lib.hid (by rw [hw0];simp)
  clear hx hv hrs ih
  unfold rxc
  obtain ⟨R,hR⟩:∃ R,Rx.deepL ks=R:=⟨_,rfl⟩
  have HR0:Hid (max 0 (Rx.deepL (ks.drop 0))=R):=Lib.hid (by simpa using hR)
  have HD:Hid ((Rx.mk k c ng rs lo hi lz ks).deep=R+if k=5∨k=6 then 1 else 0):=Lib.hid (by rw [← hR];rfl)
  have hR6:R≤1000000:=by omega
  rw [HD.out]
  clear hR hdl
  go_enter Tryz.func67,Tryz.ntmps67
  go_wp2
  rw [← hw0]
  clear hw0
  go_loopw [3,4] (fun t q wr=>SumRel ks Rx.deepL max R w0 t q wr) (fun _ q _=>ks.length - (intOf q).toNat)
  case atStart=>exact ⟨0,0,by omega,rfl,rfl,by omega,Below.refl _ _,HR0⟩
  case round =>
   obtain ⟨i,d,hi,rfl,rfl,hd9,hb,HF⟩:=hrel
   clear HR0
   have hB:=hb.size
   have z7:=cell_kept hb _ _ Z7.out
   cases hd:ks.drop i with
   | nil =>
    have h2:ks.length≤i:=by simpa using hd
    have HE:Hid (d=R):=Lib.hid (by rw [← HF.out,hd];simp [Rx.deepL])
    have z0:=cell_kept hb _ _ Z0.out
    clear hd HF
    have hbb:=hb0.trans (hb.mono hb0.size)
    by_cases h5:k=5
    ·subst h5
     go_wp2
     go_ret
     exact ⟨ret_int (by have:=HE.out;simp;omega),hbb⟩
    by_cases h6:k=6
    ·subst h6
     go_wp2
     go_ret
     exact ⟨ret_int (by have:=HE.out;simp;omega),hbb⟩
    ·have e5:(k == 5)=false:=by simpa using h5
     have e6:(k == 6)=false:=by simpa using h6
     have H56:Hid (¬ (k=5∨k=6)):=Lib.hid (by omega)
     clear h5 h6
     go_wp2
     go_ret
     exact ⟨ret_int (by have:=HE.out;omega),hbb⟩
   | cons y r =>
    obtain ⟨h2,h3,hr⟩:=ldrop_cons hd
    obtain ⟨yk,yc,yn,yr,yl,yh,yz,ys⟩:=y
    obtain ⟨b,o,ya,yrc,yka,ykc,rfl,hS,hbB,_,_,hyv,c0,c1,c2,c3,c4,c5,c6,c7⟩:=(HX.out.later hb).cells h3
    have hyp:=Rx.parts_mem (List.mem_of_getElem? h3)
    have Hr:=Lib.hid hr
    have HYV:=Lib.hid hyv
    unfold rxc at HYV
    have HE:Hid (max d (max (Rx.deep (.mk yk yc yn yr yl yh yz ys)) (Rx.deepL r))=R):=Lib.hid (by rw [← HF.out,hd];rfl)
    have hyd:=Rx.deep_parts (.mk yk yc yn yr yl yh yz ys)
    clear hd HF hr h3 hyv
    go_wp2_with (go_at_call 67;refine (IH.out _ hyp _ _ HYV.out).mono ?_;rintro e w1 ⟨rfl,hb1⟩)
    go_roundw
    case rel=>exact ⟨i+1,max d (Rx.deep (.mk yk yc yn yr yl yh yz ys)),by omega,by go_num,by first | (simp;omega) | (simp;split <;> omega),by omega,hb.trans (hb1.mono hB),Lib.hid (by rw [Hr.out,← HE.out];omega)⟩
    case measure=>simp [intOf];omega
end Go.Proofs.YtbmakifbppocaaaGreatDoor
set_option maxRecDepth 100000
namespace Go.Proofs.YtbmakifbppocaaaGreatDoor
open Go.RowKit
def WfRel (ks:List Rx) (F R:Bool) (w:World) (q:Value) (wr:World):Prop :=
 ∃ k:Nat,k≤ks.length∧q=.int .i64 k∧Below w.heap.size w wr∧Hid ((Rx.wfL (ks.drop k) && F)=R)
def AllRel (ks:List Rx) (p:Rx→Bool) (F R:Bool) (w:World) (q:Value) (wr:World):Prop :=
 ∃ k:Nat,k≤ks.length∧q=.int .i64 k∧Below w.heap.size w wr∧Hid (((ks.drop k).all p && F)=R)
def p01 (x:Rx):Bool:=decide (x.kind≠0∧x.kind≠1)
def p1 (x:Rx):Bool:=decide (x.kind≠1)
set_option maxHeartbeats 8000000 in
theorem RMay_any (S:Nat→Prop):∀ (N:Nat) (x:Rx),x.parts≤N→x.parts≤1000000→x.small→∀ (cc:List Value) (w:World),RxV w S cc x →
  Calls Tryz.prog 68 #[.agg cc.toArray] w fun e w'=>e=.returned (.bool x.wf)∧Below w.heap.size w w'
 | 0,x,h,_,_,_,_,_=>by have:=Rx.parts_pos x;omega
 | N+1,.mk k c ng rs lo hi lz ks,h,hm,hsm,cc,w,hv=>by
  obtain ⟨ra,rc,ka,kc,rfl,hrs,hx⟩:=hv.open_
  obtain ⟨⟨s1,s2,s3,s4⟩,hsmL⟩:=hsm
  simp only [Rx.parts] at h hm
  have hlen:=Rx.len_parts ks
  have ih:=fun (y:Rx) (hy:y.parts≤Rx.partsL ks)=>RMay_any S N y (by omega) (by omega)
  have IH:=Lib.hid ih
  have HSM:=Lib.hid hsmL
  have HS3:=Lib.hid s3
  obtain ⟨w0,hw0⟩:∃ w0,w0=w.alloc (.cells #[.int .i64 k,.string ⟨(c).toArray⟩,.bool ng,.slice ra rs.length rc,.int .i64 lo,.int .i64 hi,.bool lz,.slice ka ks.length kc] 32):=⟨_,rfl⟩
  have hb0:Below w.heap.size w w0:=by rw [hw0];exact (Below.refl _ _).alloc (Nat.le_refl _) _
  have hbx0:w0.heap[w.heap.size]?=some (.cells #[.int .i64 k,.string ⟨(c).toArray⟩,.bool ng,.slice ra rs.length rc,.int .i64 lo,.int .i64 hi,.bool lz,.slice ka ks.length kc] 32 (0,0)):=by rw [hw0];exact heap_alloc_new w _
  have HX:=Lib.hid (hx.later hb0)
  have HRS:=Lib.hid hrs
  have HBX:=Lib.hid hbx0
  obtain ⟨R,hR⟩:∃ R,(Rx.mk k c ng rs lo hi lz ks).wf=R:=⟨_,rfl⟩
  obtain ⟨F,hF⟩:∃ F,fieldsB (Rx.mk k c ng rs lo hi lz ks)=F:=⟨_,rfl⟩
  have HR0:Hid ((Rx.wfL (ks.drop 0) && F)=R):=Lib.hid (by rw [← hR,← hF,Bool.and_comm];rfl)
  have HF0:=Lib.hid hF
  rw [hR]
  clear hx hv hrs ih hsmL s3 hbx0 hR hF
  unfold rxc
  go_enter Tryz.func68,Tryz.ntmps68
  go_wp2
  rw [← hw0]
  clear hw0
  go_loopw [4] (fun q wr=>WfRel ks F R w0 q wr) (fun q _=>ks.length - (intOf q).toNat)
  case atStart=>exact ⟨0,by omega,rfl,Below.refl _ _,HR0⟩
  case round =>
   obtain ⟨i,hik,rfl,hb,HL⟩:=hrel
   clear HR0
   have hB:=hb.size
   have hbb:=hb0.trans (hb.mono hb0.size)
   have hBX1:=(hb.block _ (heap_lt HBX.out)).trans HBX.out
   have HBXr:=Lib.hid hBX1
   cases hd:ks.drop i with
   | cons y r =>
    obtain ⟨e0,e1,e2,e3,e4,e5,e6,e7,e8⟩:=bx_cells (hBX1)
    have hsmy:=fun h3=>smallL_mem HSM.out (List.mem_of_getElem? (a:=y) (i:=i) h3)
    have HSY:=Lib.hid hsmy
    clear hsmy hBX1
    obtain ⟨h2,h3,hr⟩:=ldrop_cons hd
    obtain ⟨yk,yc,yn,yr,yl,yh,yz,ys⟩:=y
    obtain ⟨b,o,ya,yrc,yka,ykc,rfl,hS,hbB,_,_,hyv,c0,c1,c2,c3,c4,c5,c6,c7⟩:=(HX.out.later hb).cells h3
    have hyp:=Rx.parts_mem (List.mem_of_getElem? h3)
    have Hr:=Lib.hid hr
    have HYV:=Lib.hid hyv
    unfold rxc at HYV
    have HSY2:=Lib.hid (HSY.out h3)
    have HE:Hid (R=(Rx.wf (.mk yk yc yn yr yl yh yz ys) && (Rx.wfL r && F))):=Lib.hid (by rw [← HL.out,hd,← Bool.and_assoc];rfl)
    obtain ⟨yb,hyb⟩:∃ yb,Rx.wf (.mk yk yc yn yr yl yh yz ys)=yb:=⟨_,rfl⟩
    have HYB:=Lib.hid hyb
    rw [hyb] at HE
    clear hd HL hr h3 hyv hyb HSY
    cases yb with
    | false =>
     have HE3:Hid (R=false):=Lib.hid (by rw [HE.out];rfl)
     go_wp2_with (go_at_call 68;refine (IH.out _ hyp HSY2.out _ _ HYV.out).mono ?_;rintro e w1 ⟨rfl,hb1⟩;rw [HYB.out])
     go_ret
     exact ⟨ret_bool HE3.out.symm,hbb.trans (hb1.mono hbb.size)⟩
    | true =>
     have HE3:Hid ((Rx.wfL r && F)=R):=Lib.hid (by rw [HE.out];rfl)
     go_wp2_with (go_at_call 68;refine (IH.out _ hyp HSY2.out _ _ HYV.out).mono ?_;rintro e w1 ⟨rfl,hb1⟩;rw [HYB.out])
     go_roundw
     case rel=>exact ⟨i+1,by omega,by go_num,hb.trans (hb1.mono hB),Lib.hid (by rw [Hr.out];exact HE3.out)⟩
     case measure=>simp [intOf];omega
   | nil =>
    have h2:ks.length≤i:=by simpa using hd
    have HFR:Hid (F=R):=Lib.hid (by rw [← HL.out,hd];rfl)
    obtain ⟨e0,e1,e2,e3,e4,e5,e6,e7,e8⟩:=bx_cells (hBX1)
    clear hd HL hBX1
    by_cases hk0:k=0
    ·subst hk0
     obtain ⟨bb,hbv⟩:∃ bb,bareV c ng rs.length lo hi lz=bb:=⟨_,rfl⟩
     have HB:=Lib.hid hbv
     have HE:Hid (R=(bb && decide (ks.length≠1) && ks.all p01)):=Lib.hid (by rw [← HFR.out,← HF0.out,← hbv,← bareB_eq 0 c ng rs lo hi lz ks];rfl)
     clear hbv HFR HF0
     obtain ⟨F2,hF2⟩:∃ b,(bb && decide (ks.length≠1))=b:=⟨_,rfl⟩
     have HF2:=Lib.hid hF2
     have HK0:Hid (((ks.drop 0).all p01 && F2)=R):=Lib.hid (by rw [HE.out,← hF2];cases bb <;> simp [Bool.and_comm] <;> rfl)
     clear hF2 HE
     have HXr:=Lib.hid (HX.out.later hb)
     obtain ⟨wo,rfl⟩:∃ wo:World,wo=wr:=⟨_,rfl⟩
     go_wp2
     go_loopw [5] (fun q wk=>AllRel ks p01 F2 R wo q wk) (fun q _=>ks.length - (intOf q).toNat)
     case atStart=>exact ⟨0,by omega,rfl,Below.refl _ _,HK0⟩
     case round =>
      obtain ⟨j,hj,rfl,hbk,HG⟩:=hrel
      clear HK0
      have hBk:=hbk.size
      have hBX2:=(hbk.block _ (heap_lt HBXr.out)).trans HBXr.out
      obtain ⟨e0,e1,e2,e3,e4,e5,e6,e7,e8⟩:=bx_cells (hBX2)
      have hbbk:=hbb.trans (hbk.mono hbb.size)
      clear hBX2
      cases hd:ks.drop j with
      | nil =>
       have hge:ks.length≤j:=by simpa using hd
       have HE:Hid (R=F2):=Lib.hid (by rw [← HG.out,hd];rfl)
       clear hd HG
       have hbw:=hbbk
       cases bb
       all_goals
        go_wp2_with (go_at_call 85;refine (RBare_eq _ HB.out).mono ?_;rintro e w1 ⟨rfl,hb1,_⟩)
        go_ret
        refine ⟨ret_bool ?_,hbw.trans (hb1.mono hbw.size)⟩
        rw [HE.out,← HF2.out]
        first | rfl | (clear HE HF2;simp;done) | (clear HE HF2;rw [Bool.eq_iff_iff];simp;omega)
      | cons y r =>
       obtain ⟨h2,h3,hr⟩:=ldrop_cons hd
       obtain ⟨yk,yc,yn,yr,yl,yh,yz,ys⟩:=y
       obtain ⟨b,o,ya,yrc,yka,ykc,rfl,hS,hbB,_,_,hyv,c0,c1,c2,c3,c4,c5,c6,c7⟩:=(HXr.out.later hbk).cells h3
       have Hr:=Lib.hid hr
       have HG2:Hid (((Rx.mk yk yc yn yr yl yh yz ys :: r).all p01 && F2)=R):=Lib.hid (by rw [← HG.out,hd])
       clear hd HG hr h3 hyv c1 c2 c3 c4 c5 c6 c7
       by_cases hy0:yk=0
       ·subst hy0
        have HE3:Hid (R=false):=Lib.hid (by rw [← HG2.out];simp [p01,Rx.kind])
        go_wp2
        go_ret
        exact ⟨ret_bool HE3.out.symm,hbbk⟩
       by_cases hy1:yk=1
       ·subst hy1
        have HE3:Hid (R=false):=Lib.hid (by rw [← HG2.out];simp [p01,Rx.kind])
        go_wp2
        go_ret
        exact ⟨ret_bool HE3.out.symm,hbbk⟩
       have n0:(yk == 0)=false:=by rw [beq_eq_false_iff_ne];exact hy0
       have n1:(yk == 1)=false:=by rw [beq_eq_false_iff_ne];exact hy1
       have HN:=Lib.hid (And.intro hy0 hy1)
       clear hy0 hy1
       have HE3:Hid ((r.all p01 && F2)=R):=Lib.hid (by rw [← HG2.out];simp [p01,Rx.kind,HN.out.1,HN.out.2])
       clear HG2
       go_wp2
       go_roundw
       case rel=>exact ⟨j+1,by omega,by go_num,hbk,Lib.hid (by rw [Hr.out];exact HE3.out)⟩
       case measure=>simp [intOf];omega
    by_cases hk1:k=1
    ·subst hk1
     obtain ⟨bb,hbv⟩:∃ bb,bareV c ng rs.length lo hi lz=bb:=⟨_,rfl⟩
     have HB:=Lib.hid hbv
     have HE:Hid (R=(bb && decide (1 < ks.length) && ks.all p1)):=Lib.hid (by rw [← HFR.out,← HF0.out,← hbv,← bareB_eq 1 c ng rs lo hi lz ks];rfl)
     clear hbv HFR HF0 hk0
     obtain ⟨F2,hF2⟩:∃ b,(bb && decide (1 < ks.length))=b:=⟨_,rfl⟩
     have HF2:=Lib.hid hF2
     have HK0:Hid (((ks.drop 0).all p1 && F2)=R):=Lib.hid (by rw [HE.out,← hF2];cases bb <;> simp [Bool.and_comm] <;> rfl)
     clear hF2 HE
     have HXr:=Lib.hid (HX.out.later hb)
     obtain ⟨wo,rfl⟩:∃ wo:World,wo=wr:=⟨_,rfl⟩
     go_wp2
     go_loopw [6] (fun q wk=>AllRel ks p1 F2 R wo q wk) (fun q _=>ks.length - (intOf q).toNat)
     case atStart=>exact ⟨0,by omega,rfl,Below.refl _ _,HK0⟩
     case round =>
      obtain ⟨j,hj,rfl,hbk,HG⟩:=hrel
      clear HK0
      have hBk:=hbk.size
      have hBX2:=(hbk.block _ (heap_lt HBXr.out)).trans HBXr.out
      obtain ⟨e0,e1,e2,e3,e4,e5,e6,e7,e8⟩:=bx_cells (hBX2)
      have hbbk:=hbb.trans (hbk.mono hbb.size)
      clear hBX2
      cases hd:ks.drop j with
      | nil =>
       have hge:ks.length≤j:=by simpa using hd
       have HE:Hid (R=F2):=Lib.hid (by rw [← HG.out,hd];rfl)
       clear hd HG
       have hbw:=hbbk
       cases bb
       all_goals
        go_wp2_with (go_at_call 85;refine (RBare_eq _ HB.out).mono ?_;rintro e w1 ⟨rfl,hb1,_⟩)
        go_ret
        refine ⟨ret_bool ?_,hbw.trans (hb1.mono hbw.size)⟩
        rw [HE.out,← HF2.out]
        first | rfl | (clear HE HF2;simp;done) | (clear HE HF2;rw [Bool.eq_iff_iff];simp;omega)
      | cons y r =>
       obtain ⟨h2,h3,hr⟩:=ldrop_cons hd
       obtain ⟨yk,yc,yn,yr,yl,yh,yz,ys⟩:=y
       obtain ⟨b,o,ya,yrc,yka,ykc,rfl,hS,hbB,_,_,hyv,c0,c1,c2,c3,c4,c5,c6,c7⟩:=(HXr.out.later hbk).cells h3
       have Hr:=Lib.hid hr
       have HG2:Hid (((Rx.mk yk yc yn yr yl yh yz ys :: r).all p1 && F2)=R):=Lib.hid (by rw [← HG.out,hd])
       clear hd HG hr h3 hyv c1 c2 c3 c4 c5 c6 c7
       by_cases hy1:yk=1
       ·subst hy1
        have HE3:Hid (R=false):=Lib.hid (by rw [← HG2.out];simp [p1,Rx.kind])
        go_wp2
        go_ret
        exact ⟨ret_bool HE3.out.symm,hbbk⟩
       have n1:(yk == 1)=false:=by rw [beq_eq_false_iff_ne];exact hy1
       have HN:=Lib.hid hy1
       clear hy1
       have HE3:Hid ((r.all p1 && F2)=R):=Lib.hid (by rw [← HG2.out];simp [p1,Rx.kind,HN.out])
       clear HG2
       go_wp2
       go_roundw
       case rel=>exact ⟨j+1,by omega,by go_num,hbk,Lib.hid (by rw [Hr.out];exact HE3.out)⟩
       case measure=>simp [intOf];omega
    by_cases hk2:k=2
    ·subst hk2
     obtain ⟨bb,hbv⟩:∃ bb,bareV [] ng rs.length lo hi lz=bb:=⟨_,rfl⟩
     obtain ⟨pp,hpv⟩:∃ pp,properB c=pp:=⟨_,rfl⟩
     have HB:=Lib.hid hbv
     have HP:=Lib.hid hpv
     have HE:Hid (R=(bb && decide (ks.length=0) && pp)):=Lib.hid (by rw [← HFR.out,← HF0.out,← hbv,← hpv,← bareB_eq 2 [] ng rs lo hi lz ks];cases ks <;> simp [fieldsB])
     clear hbv hpv HFR HF0 hk0 hk1
     by_cases hl:ks.length=0
     ·have l0:((ks.length:Int) == 0)=true:=by rw [hl];rfl
      have HE2:Hid (R=(bb && pp)):=Lib.hid (by rw [HE.out,hl];simp)
      clear hl HE
      cases bb
      ·go_wp2_with (go_at_call 85;refine (RBare_eq _ HB.out).mono ?_;rintro e w1 ⟨rfl,hb1,_⟩)
       go_ret
       exact ⟨ret_bool HE2.out.symm,bel2 (hbb.setCell (by simp) _) hb1⟩
      ·go_wp2_with (first | (go_at_call 85;refine (RBare_eq _ HB.out).mono ?_;rintro e w1 ⟨rfl,hb1,_⟩) | (go_at_call 86;refine (RProper_eq _ HP.out (by omega)).mono ?_;rintro e w2 ⟨rfl,hb2⟩))
       go_ret
       exact ⟨ret_bool HE2.out.symm,bel2 (bel2 (hbb.setCell (by simp) _) hb1) hb2⟩
     ·have l0:((ks.length:Int) == 0)=false:=by rw [beq_eq_false_iff_ne];omega
      have HE2:Hid (R=false):=Lib.hid (by rw [HE.out,decide_eq_false hl];simp)
      clear hl HE
      cases bb
      all_goals
       go_wp2_with (go_at_call 85;refine (RBare_eq _ HB.out).mono ?_;rintro e w1 ⟨rfl,hb1,_⟩)
       go_ret
       exact ⟨ret_bool HE2.out.symm,bel2 (hbb.setCell (by simp) _) hb1⟩
    by_cases hk4:k=4
    ·subst hk4
     obtain ⟨bb,hbv⟩:∃ bb,bareV c false 0 lo hi lz=bb:=⟨_,rfl⟩
     have HB:=Lib.hid hbv
     have HE:Hid (R=(bb && decide (ks.length=0) && rowsB rs)):=Lib.hid (by rw [← HFR.out,← HF0.out,← hbv,show (0:Nat)=([]:List (Str × Str)).length from rfl,← bareB_eq 4 c false [] lo hi lz ks];cases ks <;> simp [fieldsB])
     clear hbv HFR HF0 hk0 hk1 hk2
     by_cases hl:ks.length=0
     ·have l0:((ks.length:Int) == 0)=true:=by rw [hl];rfl
      have HE2:Hid (R=(bb && rowsB rs)):=Lib.hid (by rw [HE.out,hl];simp)
      clear hl HE
      cases bb
      ·go_wp2_with (go_at_call 85;refine (RBare_eq _ HB.out).mono ?_;rintro e w1 ⟨rfl,hb1,_⟩)
       go_ret
       exact ⟨ret_bool HE2.out.symm,bel2 ((hbb.setCell (by simp) _).setCell (by simp) _) hb1⟩
      ·go_wp2_with (first | (((go_at_call 85;refine (RBare_eq _ HB.out).mono ?_;rintro e w1 ⟨rfl,hb1,_⟩));have hbq:=bel2 ((hbb.setCell (by simp) _).setCell (by simp) _) hb1;have HR1:=Lib.hid (HRS.out.keep (Kept.all hbq)).sl) | (go_at_call 87;refine (RRowsMay_any _ _ _ rs _ HR1.out (by omega) HS3.out).mono ?_;rintro e w2 ⟨rfl,hb2⟩))
       go_ret
       exact ⟨ret_bool HE2.out.symm,bel2 hbq hb2⟩
     ·have l0:((ks.length:Int) == 0)=false:=by rw [beq_eq_false_iff_ne];omega
      have HE2:Hid (R=false):=Lib.hid (by rw [HE.out,decide_eq_false hl];simp)
      clear hl HE
      cases bb
      all_goals
       go_wp2_with (go_at_call 85;refine (RBare_eq _ HB.out).mono ?_;rintro e w1 ⟨rfl,hb1,_⟩)
       go_ret
       exact ⟨ret_bool HE2.out.symm,bel2 ((hbb.setCell (by simp) _).setCell (by simp) _) hb1⟩
    by_cases hk7:k=7
    ·subst hk7
     have HE:Hid (R=repOk c ng rs.length lo hi ks):=Lib.hid (by rw [← HFR.out,← HF0.out];unfold repOk;rw [← bareB_eq 7 c ng rs 0 0 false ks];rfl)
     have HXr:=Lib.hid (HX.out.later hb)
     clear HFR HF0 hk0 hk1 hk2 hk4
     go_wp2_with (go_at_call 88;refine (RRepeat_any S _ _ _ _ _ _ _ _ _ _ _ _ _ HXr.out s4).mono ?_;rintro e w1 ⟨rfl,hb1⟩)
     go_ret
     exact ⟨ret_bool HE.out.symm,bel2 hbb hb1⟩
    by_cases hk5:k=5∨k=6
    ·obtain ⟨bb,hbv⟩:∃ bb,bareV c ng rs.length lo hi lz=bb:=⟨_,rfl⟩
     have HB:=Lib.hid hbv
     have HE:Hid (R=(bb && decide (ks.length=1))):=Lib.hid (by rw [← HFR.out,← HF0.out,← hbv,← bareB_eq k c ng rs lo hi lz ks];rcases hk5 with rfl | rfl <;> rfl)
     clear hbv HFR HF0 hk0 hk1 hk2 hk4 hk7
     rcases hk5 with rfl | rfl
     all_goals
      cases bb
      all_goals
       go_wp2_with (go_at_call 85;refine (RBare_eq _ HB.out).mono ?_;rintro e w1 ⟨rfl,hb1,_⟩)
       go_ret
       refine ⟨ret_bool ?_,bel2 hbb hb1⟩
       rw [HE.out]
       first | rfl | (clear HE;rw [Bool.eq_iff_iff];simp;done) | (clear HE;rw [Bool.eq_iff_iff];simp;omega)
    by_cases hk3:k=3∨k=8∨k=9∨k=10∨k=11
    ·obtain ⟨bb,hbv⟩:∃ bb,bareV c ng rs.length lo hi lz=bb:=⟨_,rfl⟩
     have HB:=Lib.hid hbv
     have HE:Hid (R=(bb && decide (ks.length=0))):=Lib.hid (by rw [← HFR.out,← HF0.out,← hbv,← bareB_eq k c ng rs lo hi lz ks];rcases hk3 with rfl | rfl | rfl | rfl | rfl <;> cases ks <;> simp [fieldsB])
     clear hbv HFR HF0 hk0 hk1 hk2 hk4 hk7 hk5
     rcases hk3 with rfl | rfl | rfl | rfl | rfl
     all_goals
      cases bb
      all_goals
       go_wp2_with (go_at_call 85;refine (RBare_eq _ HB.out).mono ?_;rintro e w1 ⟨rfl,hb1,_⟩)
       go_ret
       refine ⟨ret_bool ?_,bel2 hbb hb1⟩
       rw [HE.out]
       first | rfl | (clear HE;rw [Bool.eq_iff_iff];simp;done) | (clear HE;rw [Bool.eq_iff_iff];simp;omega)
    ·have HE:Hid (R=false):=Lib.hid (by
      rw [← HFR.out,← HF0.out]
      simp only [fieldsB]
      rw [if_neg hk2,if_neg hk4,if_neg hk7,if_neg hk0,if_neg hk1,if_neg hk5,if_neg hk3])
     have g0:(k == 0)=false:=by simpa using hk0
     have g1:(k == 1)=false:=by simpa using hk1
     have g2:(k == 2)=false:=by simpa using hk2
     have g3:(k == 3)=false:=by rw [beq_eq_false_iff_ne];omega
     have g4:(k == 4)=false:=by simpa using hk4
     have g5:(k == 5)=false:=by rw [beq_eq_false_iff_ne];omega
     have g6:(k == 6)=false:=by rw [beq_eq_false_iff_ne];omega
     have g7:(k == 7)=false:=by simpa using hk7
     have g8:(k == 8)=false:=by rw [beq_eq_false_iff_ne];omega
     have g9:(k == 9)=false:=by rw [beq_eq_false_iff_ne];omega
     have g10:(k == 10)=false:=by rw [beq_eq_false_iff_ne];omega
     have g11:(k == 11)=false:=by rw [beq_eq_false_iff_ne];omega
     clear hk0 hk1 hk2 hk3 hk4 hk5 hk7
     go_wp2
     go_ret
     exact ⟨ret_bool HE.out.symm,hbb⟩
end Go.Proofs.YtbmakifbppocaaaGreatDoor
set_option maxRecDepth 100000
namespace Go.Proofs.YtbmakifbppocaaaGreatDoor
open Go.RowKit
theorem conv_digit (W:World) (n:Nat) (z:Int) (hz:z=n):(convert 41 9 (.slice (some ⟨W.heap.size,0,none⟩) 1 1)).run Tryz.prog (W.alloc (.cells #[.int .u8 (48+z % 10)] 5))=.ok (.string ⟨([UInt8.ofNat (48+n % 10)]).toArray⟩) (W.alloc (.cells #[.int .u8 (48+z % 10)] 5)):=by
 subst hz
 refine conv_own (B:=W.heap.size) (n:=1) Tryz.underlying41 Tryz.underlying5 Tryz.underlying9 ?_
 refine ⟨rfl,.inr ⟨W.heap.size,1,_,rfl,Nat.le_refl _,heap_alloc_new W _,by decide,by decide,rfl,?_⟩⟩
 simp [bcells]
 omega
def DgRel (R:Str) (W0:World) (q p:Value) (wr:World):Prop:=∃ (m:Nat) (s:Str),m≤10000∧s.length+m≤20000∧q=.int .i64 m∧p=.string ⟨(s).toArray⟩∧Below W0.heap.size W0 wr∧Hid ((if m < 10 then [] else Lib.decDigits (m / 10))++s=R)
theorem digits_step (m:Nat):(if m < 10 then [] else Lib.decDigits (m / 10))++[UInt8.ofNat (48+m % 10)]=Lib.decDigits m:=by
 rw [Lib.decDigits.eq_1 m]
 by_cases h:m < 10
 ·rw [if_pos h,dif_pos h,Nat.mod_eq_of_lt h];rfl
 ·rw [if_neg h,dif_neg h]
set_option maxHeartbeats 1000000 in
theorem Digits_any (n:Nat) (w:World) (hn:n≤10000) :
  Calls Tryz.prog 24 #[.int .i64 n] w fun e w'=>e=.returned (.string ⟨(Lib.decDigits n).toArray⟩)∧Below w.heap.size w w':=by
 generalize hR:Lib.decDigits n=R
 have HR:=Lib.hid hR
 clear hR
 have hc:=conv_digit w n n rfl
 go_enter Tryz.func24,Tryz.ntmps24
 go_wp2
 go_loopw [0,3] (fun q p wr=>DgRel R w q p wr) (fun q _ _=>(intOf q).toNat)
 case atStart=>exact ⟨n,[UInt8.ofNat (48+n % 10)],by omega,by simp;omega,rfl,by simp,(Below.refl _ _).alloc (Nat.le_refl _) _,Lib.hid (by rw [← HR.out];exact digits_step n)⟩
 case round =>
  obtain ⟨m,s,hm,hs,rfl,rfl,hb,HF⟩:=hrel
  have hc2:=conv_digit wr (m / 10) ((m:Int) / 10) (by omega)
  have hB:=hb.size
  by_cases h9:m < 10
  ·have HE:Hid (R=s):=Lib.hid (by rw [← HF.out,if_pos h9];rfl)
   have g9:decide ((10:Int)≤m)=false:=by rw [decide_eq_false_iff_not];omega
   go_wp2
   go_ret
   exact ⟨ret_str HE.out.symm,hb⟩
  ·have HE:Hid (Lib.decDigits (m / 10)++s=R):=Lib.hid (by rw [← HF.out,if_neg h9])
   go_wp2
   go_roundw
   case rel=>exact ⟨m / 10,UInt8.ofNat (48+m / 10 % 10) :: s,by omega,by simp;omega,by go_num,by simp,hb.alloc hB _,Lib.hid (by rw [← HE.out,← digits_step (m / 10)];simp)⟩
   case measure=>simp [intOf];omega
end Go.Proofs.YtbmakifbppocaaaGreatDoor
set_option maxRecDepth 100000
namespace Go.Proofs.YtbmakifbppocaaaGreatDoor
open Go.RowKit
def SgRel (th:Str) (a:UInt8) (q:Value):Prop:=∃ k:Nat,k≤th.length∧q=.int .i64 k∧Hid ((th.drop k).contains a=th.contains a)
set_option maxHeartbeats 1000000 in
theorem sign_any (th c:Str) (w:World) (hc:c≠[]) (hs:c.length≤10000000) (ht:th.length≤1000) :
  Calls Tryz.prog 69 #[.string ⟨(c).toArray⟩,.string ⟨(th).toArray⟩] w fun e w'=>e=.returned (.string ⟨(escL th c).toArray⟩)∧∃ n,w'=w.drewN n:=by
 generalize hR:escL th c=R
 have HR:=Lib.hid hR
 clear hR
 by_cases h1:c=[10]
 ·subst h1
  go_enter Tryz.func69,Tryz.ntmps69
  go_wp2
  go_ret
  exact ⟨ret_str (by rw [← HR.out];rfl),⟨0,rfl⟩⟩
 by_cases h2:c=[13]
 ·subst h2
  go_enter Tryz.func69,Tryz.ntmps69
  go_wp2
  go_ret
  exact ⟨ret_str (by rw [← HR.out];rfl),⟨0,rfl⟩⟩
 by_cases h3:c=[9]
 ·subst h3
  go_enter Tryz.func69,Tryz.ntmps69
  go_wp2
  go_ret
  exact ⟨ret_str (by rw [← HR.out];rfl),⟨0,rfl⟩⟩
 by_cases h4:c=[12]
 ·subst h4
  go_enter Tryz.func69,Tryz.ntmps69
  go_wp2
  go_ret
  exact ⟨ret_str (by rw [← HR.out];rfl),⟨0,rfl⟩⟩
 by_cases h5:c=[11]
 ·subst h5
  go_enter Tryz.func69,Tryz.ntmps69
  go_wp2
  go_ret
  exact ⟨ret_str (by rw [← HR.out];rfl),⟨0,rfl⟩⟩
 cases c with
 | nil=>exact absurd rfl hc
 | cons a r =>
  clear hc
  have HE:Hid (R=if th.contains a=true then 92 :: a :: r else a :: r):=Lib.hid (by
   rw [← HR.out];unfold escL;rw [if_neg h1,if_neg h2,if_neg h3,if_neg h4,if_neg h5];rfl)
  have HM0:Hid ((th.drop 0).contains a=th.contains a):=Lib.hid rfl
  clear HR
  rcases r with _ | ⟨b,r⟩
  ·have n1:(a == 10)=false:=by simpa using h1
   have n2:(a == 13)=false:=by simpa using h2
   have n3:(a == 9)=false:=by simpa using h3
   have n4:(a == 12)=false:=by simpa using h4
   have n5:(a == 11)=false:=by simpa using h5
   clear h1 h2 h3 h4 h5 hs
   go_enter Tryz.func69,Tryz.ntmps69
   go_wp2
   go_loopw [5] (fun q wr=>SgRel th a q∧∃ n,wr=w.drewN n) (fun q _=>th.length - (intOf q).toNat)
   case atStart=>exact ⟨⟨0,by omega,rfl,HM0⟩,0,rfl⟩
   case round =>
    obtain ⟨⟨k,hk,rfl,HF⟩,nd,rfl⟩:=hrel
    clear HM0
    cases hd:th.drop k with
    | nil =>
     have hge:th.length≤k:=drop_nil hd
     have HN:Hid (th.contains a=false):=Lib.hid (by rw [← HF.out,hd];rfl)
     clear hd HF
     go_wp2
     go_ret
     exact ⟨ret_str (by rw [HE.out,HN.out];rfl),nd,rfl⟩
    | cons x s =>
     obtain ⟨g2,g3,hr⟩:=drop_cons hd
     have HF2:Hid ((x :: s).contains a=th.contains a):=Lib.hid (by rw [← HF.out,hd])
     have Hr:=Lib.hid hr
     clear hd HF hr
     by_cases hx:a=x
     ·have HN:Hid (th.contains a=true):=Lib.hid (by rw [← HF2.out,List.contains_cons];simp [hx])
      subst hx
      go_wp2
      go_quiet (fail)
      go_wp2
      go_ret
      exact ⟨ret_str (by rw [HE.out,HN.out];rfl),_,rfl⟩
     ·have hx2:((a.toNat:Int) == x.toNat)=false:=by
       rw [beq_eq_false_iff_ne];intro e;exact hx (UInt8.toNat_inj.1 (by omega))
      have HX:=Lib.hid hx
      clear hx
      go_wp2
      go_quiet (fail)
      go_wp2
      go_roundw
      case rel=>exact ⟨⟨k+1,by omega,by go_num,Lib.hid (by rw [Hr.out,← HF2.out,List.contains_cons];simp [HX.out])⟩,_,rfl⟩
      case measure=>simp [intOf];omega
  ·clear h1 h2 h3 h4 h5
   simp only [List.length_cons] at hs
   go_enter Tryz.func69,Tryz.ntmps69
   go_wp2
   go_loopw [5] (fun q wr=>SgRel th a q∧∃ n,wr=w.drewN n) (fun q _=>th.length - (intOf q).toNat)
   case atStart=>exact ⟨⟨0,by omega,rfl,HM0⟩,0,rfl⟩
   case round =>
    obtain ⟨⟨k,hk,rfl,HF⟩,nd,rfl⟩:=hrel
    clear HM0
    cases hd:th.drop k with
    | nil =>
     have hge:th.length≤k:=drop_nil hd
     have HN:Hid (th.contains a=false):=Lib.hid (by rw [← HF.out,hd];rfl)
     clear hd HF
     go_wp2
     go_ret
     exact ⟨ret_str (by rw [HE.out,HN.out];rfl),nd,rfl⟩
    | cons x s =>
     obtain ⟨g2,g3,hr⟩:=drop_cons hd
     have HF2:Hid ((x :: s).contains a=th.contains a):=Lib.hid (by rw [← HF.out,hd])
     have Hr:=Lib.hid hr
     clear hd HF hr
     by_cases hx:a=x
     ·have HN:Hid (th.contains a=true):=Lib.hid (by rw [← HF2.out,List.contains_cons];simp [hx])
      subst hx
      go_wp2
      go_quiet (fail)
      go_wp2
      go_ret
      exact ⟨ret_str (by rw [HE.out,HN.out];rfl),_,rfl⟩
     ·have hx2:((a.toNat:Int) == x.toNat)=false:=by
       rw [beq_eq_false_iff_ne];intro e;exact hx (UInt8.toNat_inj.1 (by omega))
      have HX:=Lib.hid hx
      clear hx
      go_wp2
      go_quiet (fail)
      go_wp2
      go_roundw
      case rel=>exact ⟨⟨k+1,by omega,by go_num,Lib.hid (by rw [Hr.out,← HF2.out,List.contains_cons];simp [HX.out])⟩,_,rfl⟩
      case measure=>simp [intOf];omega
end Go.Proofs.YtbmakifbppocaaaGreatDoor
set_option maxRecDepth 100000
namespace Go.Proofs.YtbmakifbppocaaaGreatDoor
open Go.RowKit
set_option maxHeartbeats 4000000 in
theorem RxRMay_any (S:Nat→Prop) (x:Rx) (cc:List Value) (w:World) (hm:x.parts≤1000000) (hsm:x.small) (hv:RxV w S cc x) :
  Calls Tryz.prog 50 #[.agg cc.toArray] w fun e w'=>e=.returned (.bool (mayB x))∧Below w.heap.size w w':=by
 have HR:Hid (mayB x=(decide ((x.parts:Int)≤512) && decide ((x.deep:Int)≤16) && x.wf)):=Lib.hid (by simp only [mayB,okB];cases x.wf <;> simp)
 have hdp:=Rx.deep_parts x
 obtain ⟨p,hp⟩:∃ p,x.parts=p:=⟨_,rfl⟩
 obtain ⟨d,hd⟩:∃ d,x.deep=d:=⟨_,rfl⟩
 obtain ⟨f,hf⟩:∃ f,x.wf=f:=⟨_,rfl⟩
 rw [hp,hd,hf] at HR
 rw [hp] at hm hdp
 rw [hd] at hdp
 have HP:=Lib.hid hp
 have HD:=Lib.hid hd
 have HF:=Lib.hid hf
 have HSM:=Lib.hid hsm
 clear hp hd hf hsm
 obtain ⟨k,c,ng,rs,lo,hi,lz,ks⟩:=x
 obtain ⟨ra,rc,ka,kc,rfl,hrs,hx⟩:=hv.open_
 obtain ⟨w0,hw0⟩:∃ w0,w0=w.alloc (.cells #[.int .i64 k,.string ⟨(c).toArray⟩,.bool ng,.slice ra rs.length rc,.int .i64 lo,.int .i64 hi,.bool lz,.slice ka ks.length kc] 32):=⟨_,rfl⟩
 have hb0:Below w.heap.size w w0:=by rw [hw0];exact (Below.refl _ _).alloc (Nat.le_refl _) _
 have hbx0:w0.heap[w.heap.size]?=some (.cells #[.int .i64 k,.string ⟨(c).toArray⟩,.bool ng,.slice ra rs.length rc,.int .i64 lo,.int .i64 hi,.bool lz,.slice ka ks.length kc] 32 (0,0)):=by rw [hw0];exact heap_alloc_new w _
 have HV:=Lib.hid (hv.later hb0)
 have HBX:=Lib.hid hbx0
 have HW0:=Lib.hid hw0
 rw [hw0] at HV
 clear hv hrs hx hbx0 hw0
 unfold rxc at HV ⊢
 by_cases g1:(p:Int)≤512
 ·have g1':decide ((p:Int)≤512)=true:=decide_eq_true g1
  by_cases g2:(d:Int)≤16
  ·have g2':decide ((d:Int)≤16)=true:=decide_eq_true g2
   have HE:Hid (mayB (.mk k c ng rs lo hi lz ks)=f):=Lib.hid (by rw [HR.out,g1',g2'];rfl)
   rw [HE.out]
   go_enter Tryz.func50,Tryz.ntmps50
   go_wp2_with (go_at_call 66;refine (RParts_any S _ _ (Nat.le_refl _) (by rw [HP.out];exact hm) _ _ HV.out).mono ?_)
   first | rintro e w1 rfl hb1 | rintro e w1 ⟨rfl,hb1⟩
   rw [HP.out]
   rw [← HW0.out] at hb1
   replace hb1:Below w0.heap.size w0 w1:=hb1.mono (by rw [HW0.out];simp)
   have hbb1:=bel2 hb0 hb1
   have hbx1:=(hb1.block _ (heap_lt HBX.out)).trans HBX.out
   have HV1:=Lib.hid ((show RxV w0 S _ _ by rw [HW0.out];exact HV.out).later hb1)
   have HBX1:=Lib.hid hbx1
   obtain ⟨e0,e1,e2,e3,e4,e5,e6,e7,e8⟩:=bx_cells hbx1
   clear hb1 hbx1
   go_wp2_with (go_at_call 67;refine (RDeep_any S _ _ (Nat.le_refl _) (by rw [HP.out];exact hm) _ _ HV1.out).mono ?_)
   first | rintro e w2 rfl hb2 | rintro e w2 ⟨rfl,hb2⟩
   rw [HD.out]
   have hbb2:=bel2 hbb1 hb2
   have hbx2:=(hb2.block _ (heap_lt HBX1.out)).trans HBX1.out
   have HV2:=Lib.hid (HV1.out.later hb2)
   clear e0 e1 e2 e3 e4 e5 e6 e7 e8
   obtain ⟨e0,e1,e2,e3,e4,e5,e6,e7,e8⟩:=bx_cells hbx2
   clear hb2 hbx2
   go_wp2_with (go_at_call 68;refine (RMay_any S _ _ (Nat.le_refl _) (by rw [HP.out];exact hm) HSM.out _ _ HV2.out).mono ?_;rintro e w3 ⟨rfl,hb3⟩;rw [HF.out])
   go_ret
   exact ⟨rfl,bel2 hbb2 hb3⟩
  ·have g2':decide ((d:Int)≤16)=false:=decide_eq_false g2
   have HE:Hid (mayB (.mk k c ng rs lo hi lz ks)=false):=Lib.hid (by rw [HR.out,g1',g2'];rfl)
   rw [HE.out]
   go_enter Tryz.func50,Tryz.ntmps50
   go_wp2_with (go_at_call 66;refine (RParts_any S _ _ (Nat.le_refl _) (by rw [HP.out];exact hm) _ _ HV.out).mono ?_)
   first | rintro e w1 rfl hb1 | rintro e w1 ⟨rfl,hb1⟩
   rw [HP.out]
   rw [← HW0.out] at hb1
   replace hb1:Below w0.heap.size w0 w1:=hb1.mono (by rw [HW0.out];simp)
   have hbb1:=bel2 hb0 hb1
   have hbx1:=(hb1.block _ (heap_lt HBX.out)).trans HBX.out
   have HV1:=Lib.hid ((show RxV w0 S _ _ by rw [HW0.out];exact HV.out).later hb1)
   have HBX1:=Lib.hid hbx1
   obtain ⟨e0,e1,e2,e3,e4,e5,e6,e7,e8⟩:=bx_cells hbx1
   clear hb1 hbx1
   go_wp2_with (go_at_call 67;refine (RDeep_any S _ _ (Nat.le_refl _) (by rw [HP.out];exact hm) _ _ HV1.out).mono ?_)
   first | rintro e w2 rfl hb2 | rintro e w2 ⟨rfl,hb2⟩
   rw [HD.out]
   have hbb2:=bel2 hbb1 hb2
   have hbx2:=(hb2.block _ (heap_lt HBX1.out)).trans HBX1.out
   have HV2:=Lib.hid (HV1.out.later hb2)
   clear e0 e1 e2 e3 e4 e5 e6 e7 e8
   obtain ⟨e0,e1,e2,e3,e4,e5,e6,e7,e8⟩:=bx_cells hbx2
   clear hb2 hbx2
   go_wp2
   go_ret
   exact ⟨rfl,hbb2⟩
 ·have g1':decide ((p:Int)≤512)=false:=decide_eq_false g1
  have HE:Hid (mayB (.mk k c ng rs lo hi lz ks)=false):=Lib.hid (by rw [HR.out,g1'];rfl)
  rw [HE.out]
  go_enter Tryz.func50,Tryz.ntmps50
  go_wp2_with (go_at_call 66;refine (RParts_any S _ _ (Nat.le_refl _) (by rw [HP.out];exact hm) _ _ HV.out).mono ?_)
  first | rintro e w1 rfl hb1 | rintro e w1 ⟨rfl,hb1⟩
  rw [HP.out]
  rw [← HW0.out] at hb1
  replace hb1:Below w0.heap.size w0 w1:=hb1.mono (by rw [HW0.out];simp)
  have hbb1:=bel2 hb0 hb1
  have hbx1:=(hb1.block _ (heap_lt HBX.out)).trans HBX.out
  have HV1:=Lib.hid ((show RxV w0 S _ _ by rw [HW0.out];exact HV.out).later hb1)
  have HBX1:=Lib.hid hbx1
  obtain ⟨e0,e1,e2,e3,e4,e5,e6,e7,e8⟩:=bx_cells hbx1
  clear hb1 hbx1
  go_wp2
  go_ret
  exact ⟨rfl,hbb1⟩

theorem Digits_eq {n:Int} (w:World) (h0:0≤n) (h1:n≤10000) :
  Calls Tryz.prog 24 #[.int .i64 n] w fun e w'=>e=.returned (.string ⟨(dec n).toArray⟩)∧Below w.heap.size w w':=by
 obtain ⟨m,rfl⟩:=Int.eq_ofNat_of_zero_le h0
 exact Digits_any m w (by omega)
set_option maxHeartbeats 1000000 in
theorem many_any (lo hi:Int) (w:World) (h0:0≤lo) (h1:lo≤255) (h2:hi=-1∨lo≤hi∧hi≤255) :
  Calls Tryz.prog 71 #[.int .i64 lo,.int .i64 hi] w fun e w'=>e=.returned (.string ⟨(oftS lo hi).toArray⟩)∧Below w.heap.size w w':=by
 generalize hR:oftS lo hi=R
 have HR:=Lib.hid hR
 clear hR
 have hl:=dec_len h0 (by omega:lo≤9999)
 rcases h2 with rfl | ⟨h3,h4⟩
 ·by_cases hl0:lo=0
  ·subst hl0
   go_enter Tryz.func71,Tryz.ntmps71
   go_wp2
   go_ret
   exact ⟨ret_str (by rw [← HR.out];simp [oftS]),Below.refl _ _⟩
  by_cases hl1:lo=1
  ·subst hl1
   go_enter Tryz.func71,Tryz.ntmps71
   go_wp2
   go_ret
   exact ⟨ret_str (by rw [← HR.out];simp [oftS]),Below.refl _ _⟩
  have e0:(lo == 0)=false:=by simpa using hl0
  have e1:(lo == 1)=false:=by simpa using hl1
  have e2:(lo == -1)=false:=(by rw [beq_eq_false_iff_ne];omega)
  have HR2:Hid (R=123 :: (dec lo++[44,125])):=Lib.hid (by
   rw [← HR.out];unfold oftS
   rw [if_neg (by omega),if_neg (by omega),if_neg (by omega),if_neg (by omega),if_pos rfl])
  clear hl0 hl1 HR
  go_enter Tryz.func71,Tryz.ntmps71
  go_wp2_with (go_at_call 24;refine (Digits_eq _ (by omega) (by omega)).mono ?_;rintro e w1 ⟨rfl,hb1⟩)
  go_ret
  exact ⟨ret_str (by rw [HR2.out] <;> simp),hb1⟩
 ·have hh:=dec_len (n:=hi) (by omega) (by omega)
  have e2:(hi == -1)=false:=by rw [beq_eq_false_iff_ne];omega
  by_cases hlh:lo=hi
  ·subst hlh
   have HR2:Hid (R=123 :: (dec lo++[125])):=Lib.hid (by
    rw [← HR.out];unfold oftS
    rw [if_neg (by omega),if_neg (by omega),if_neg (by omega),if_pos rfl])
   clear HR
   by_cases hl0:lo=0
   ·subst hl0
    go_enter Tryz.func71,Tryz.ntmps71
    go_wp2_with (go_at_call 24;refine (Digits_eq _ (by omega) (by omega)).mono ?_;rintro e w1 ⟨rfl,hb1⟩)
    go_ret
    exact ⟨ret_str (by rw [HR2.out] <;> simp),hb1⟩
   by_cases hl1:lo=1
   ·subst hl1
    go_enter Tryz.func71,Tryz.ntmps71
    go_wp2_with (go_at_call 24;refine (Digits_eq _ (by omega) (by omega)).mono ?_;rintro e w1 ⟨rfl,hb1⟩)
    go_ret
    exact ⟨ret_str (by rw [HR2.out] <;> simp),hb1⟩
   ·have e0:(lo == 0)=false:=by simpa using hl0
    have e1:(lo == 1)=false:=by simpa using hl1
    clear hl0 hl1
    go_enter Tryz.func71,Tryz.ntmps71
    go_wp2_with (go_at_call 24;refine (Digits_eq _ (by omega) (by omega)).mono ?_;rintro e w1 ⟨rfl,hb1⟩)
    go_ret
    exact ⟨ret_str (by rw [HR2.out] <;> simp),hb1⟩
  ·by_cases hq:lo=0∧hi=1
   ·obtain ⟨rfl,rfl⟩:=hq
    go_enter Tryz.func71,Tryz.ntmps71
    go_wp2
    go_ret
    exact ⟨ret_str (by rw [← HR.out];simp [oftS]),Below.refl _ _⟩
   have HR2:Hid (R=123 :: (dec lo++44 :: (dec hi++[125]))):=Lib.hid (by
    rw [← HR.out];unfold oftS
    rw [if_neg (by omega),if_neg (by omega),if_neg (by omega),if_neg hlh,if_neg (by omega)])
   have e3:(lo == hi)=false:=by simpa using hlh
   clear HR
   by_cases hl0:lo=0
   ·subst hl0
    have e4:(hi == 1)=false:=by rw [beq_eq_false_iff_ne];omega
    clear hq hlh
    go_enter Tryz.func71,Tryz.ntmps71
    go_wp2_with (go_at_call 24;refine (Digits_eq _ (by omega) (by omega)).mono ?_)
    first | rintro e w1 rfl hb1 | rintro e w1 ⟨rfl,hb1⟩
    go_wp2_with (go_at_call 24;refine (Digits_eq _ (by omega) (by omega)).mono ?_)
    first | rintro e w2 rfl hb2 | rintro e w2 ⟨rfl,hb2⟩
    go_wp2
    go_ret
    exact ⟨ret_str (by rw [HR2.out] <;> simp),hb1.trans (hb2.mono hb1.size)⟩
   by_cases hl1:lo=1
   ·subst hl1
    clear hq hlh
    go_enter Tryz.func71,Tryz.ntmps71
    go_wp2_with (go_at_call 24;refine (Digits_eq _ (by omega) (by omega)).mono ?_)
    first | rintro e w1 rfl hb1 | rintro e w1 ⟨rfl,hb1⟩
    go_wp2_with (go_at_call 24;refine (Digits_eq _ (by omega) (by omega)).mono ?_)
    first | rintro e w2 rfl hb2 | rintro e w2 ⟨rfl,hb2⟩
    go_wp2
    go_ret
    exact ⟨ret_str (by rw [HR2.out] <;> simp),hb1.trans (hb2.mono hb1.size)⟩
   ·have e0:(lo == 0)=false:=by simpa using hl0
    have e1:(lo == 1)=false:=by simpa using hl1
    clear hl0 hl1 hq hlh
    go_enter Tryz.func71,Tryz.ntmps71
    go_wp2_with (go_at_call 24;refine (Digits_eq _ (by omega) (by omega)).mono ?_)
    first | rintro e w1 rfl hb1 | rintro e w1 ⟨rfl,hb1⟩
    go_wp2_with (go_at_call 24;refine (Digits_eq _ (by omega) (by omega)).mono ?_)
    first | rintro e w2 rfl hb2 | rintro e w2 ⟨rfl,hb2⟩
    go_wp2
    go_ret
    exact ⟨ret_str (by rw [HR2.out] <;> simp),hb1.trans (hb2.mono hb1.size)⟩
end Go.Proofs.YtbmakifbppocaaaGreatDoor
set_option maxRecDepth 100000
namespace Go.Proofs.YtbmakifbppocaaaGreatDoor
open Go.RowKit
theorem sign_eq {th c:Str} (w:World) (hc:c≠[]) (hs:c.length≤1000000) (ht:th.length≤1000) :
  Calls Tryz.prog 69 #[.string ⟨(c).toArray⟩,.string ⟨(th).toArray⟩] w fun e w'=>e=.returned (.string ⟨(escL th c).toArray⟩)∧Below w.heap.size w w' :=
 (sign_any th c w hc (by omega) ht).mono fun _ _ ⟨h1,n,h2⟩=>⟨h1,by rw [h2];exact below_drewN (Below.refl _ _) n⟩
def StRel (rs:List (Str × Str)) (T:Str) (w1:World) (s q:Value) (wr:World):Prop :=
 ∃ (k:Nat) (acc:Str),k≤rs.length∧q=.int .i64 k∧s=.string ⟨(acc).toArray⟩∧Below w1.heap.size w1 wr∧acc.length≤20000000∧Hid (acc++(rs.drop k).flatMap rowS=T)
set_option maxHeartbeats 4000000 in
theorem RSet_any (kd:Int) (c:Str) (ng:Bool) (ra:Option Addr) (rs:List (Str × Str)) (rc:Nat) (lo hi:Int) (lz:Bool) (ka:Option Addr) (kn kc:Nat) (w:World)
  (hr:Sl w w.heap.size ra 2 rs.length (rcells rs)) (hne:∀ r ∈ rs,r.1≠[]∧r.2≠[]) (hsz:∀ r ∈ rs,r.1.length≤1000000∧r.2.length≤1000000) (hrl:rs.length≤1000000)
  (hlen:(setS ng rs).length≤10000000) :
  Calls Tryz.prog 70 #[.agg #[.int .i64 kd,.string ⟨(c).toArray⟩,.bool ng,.slice ra rs.length rc,.int .i64 lo,.int .i64 hi,.bool lz,.slice ka kn kc]] w fun e w'=>e=.returned (.string ⟨(setS ng rs).toArray⟩)∧Below w.heap.size w w':=by
 have HNE:=Lib.hid hne
 have HSZ:=Lib.hid hsz
 have HR1:=Lib.hid hr
 obtain ⟨w0,hw0⟩:∃ w0,w0=w.alloc (.cells #[.int .i64 kd,.string ⟨(c).toArray⟩,.bool ng,.slice ra rs.length rc,.int .i64 lo,.int .i64 hi,.bool lz,.slice ka kn kc] 32):=⟨_,rfl⟩
 have hb0:Below w.heap.size w w0:=by rw [hw0];exact (Below.refl _ _).alloc (Nat.le_refl _) _
 have Z3:Hid (w0.cell? ⟨w.heap.size,3,none⟩=some (.slice ra rs.length rc)):=Lib.hid (by rw [hw0];simp)
 clear hne hsz hr
 cases ng with
 | false =>
  obtain ⟨T,hT⟩:∃ T,([91])++rs.flatMap rowS=T:=⟨_,rfl⟩
  have HT0:Hid (([91])++(rs.drop 0).flatMap rowS=T):=Lib.hid hT
  have HTL:T.length≤10000000:=by rw [← hT];have h:=hlen;simp only [setS,Bool.false_eq_true,if_false,List.length_append,List.length_cons,List.length_nil] at h ⊢;omega
  have HTT:=Lib.hid hT
  clear hT hlen
  go_enter Tryz.func70,Tryz.ntmps70
  go_wp2
  rw [← hw0]
  clear hw0
  go_loopw [3,4] (fun s q wr=>StRel rs T w0 s q wr) (fun _ q _=>rs.length - (intOf q).toNat)
  case atStart=>exact ⟨0,[91],by omega,rfl,rfl,Below.refl _ _,by simp,HT0⟩
  case round =>
   obtain ⟨k,ac,hk,rfl,rfl,hb,hacl,HF⟩:=hrel
   clear HT0
   have hB:=hb.size
   have hbb:=hb0.trans (hb.mono hb0.size)
   have z3:=cell_kept hb _ _ Z3.out
   cases hd:rs.drop k with
   | nil =>
    have h2:rs.length≤k:=by simpa using hd
    have HE:Hid (ac=T):=Lib.hid (by rw [← HF.out,hd];simp)
    clear hd HF
    go_wp2
    go_ret
    exact ⟨ret_str (by rw [HE.out,← HTT.out];simp [setS]),hbb⟩
   | cons r0 r =>
    obtain ⟨h2,h3,hr0⟩:=ldrop_cons hd
    obtain ⟨n1,n2⟩:=HNE.out r0 (List.mem_of_getElem? h3)
    obtain ⟨b,o,rfl,hbB,c0,c1⟩:=(HR1.out.keep hbb).row h3
    obtain ⟨f,t⟩:=r0
    replace n1:f≠[]:=n1
    replace n2:t≠[]:=n2
    replace c0:wr.cell? ⟨b,o+k * 2,none⟩=some (.string ⟨(f).toArray⟩):=c0
    replace c1:wr.cell? ⟨b,o+k * 2+1,none⟩=some (.string ⟨(t).toArray⟩):=c1
    have HE:Hid (ac++(rowS (f,t)++r.flatMap rowS)=T):=Lib.hid (by rw [← HF.out,hd];rfl)
    have Hr:=Lib.hid hr0
    have hsl:ac.length+(escL th2 f).length+(if t=f then 0 else (escL th2 t).length+1)≤10000000:=by
     have h:=congrArg List.length HE.out
     simp only [List.length_append,rowS] at h
     split <;> simp_all <;> omega
    obtain ⟨l1,l2⟩:=HSZ.out (f,t) (List.mem_of_getElem? h3)
    replace l1:f.length≤1000000:=l1
    replace l2:t.length≤1000000:=l2
    have N1:=Lib.hid n1;have N2:=Lib.hid n2
    clear hd HF hr0 h3 n1 n2
    go_wp2_with (go_at_call 69;refine (sign_eq _ N1.out l1 (by decide)).mono ?_;rintro e w2 ⟨rfl,hb2⟩;rw [show [94,45,92,91,93,47]=th2 from rfl];have hbr2:=bel2 hb hb2;have y3:=cell_kept hb2 _ _ z3;have y0:=cell_kept hb2 _ _ c0;have y1:=cell_kept hb2 _ _ c1)
    by_cases htf:t=f
    ·have HT2:=Lib.hid htf
     subst htf
     go_wp2
     go_quiet (fail)
     go_wp2
     go_roundw
     case rel=>exact ⟨k+1,ac++escL th2 t,by omega,by go_num,rfl,below_drewN hbr2 _,by simp only [List.length_append];simp at hsl;omega,Lib.hid (by rw [Hr.out,← HE.out];simp [rowS])⟩
     case measure=>simp [intOf];omega
    ·have hne:(t == f)=false:=by simpa using htf
     have HT2:=Lib.hid htf
     rw [if_neg htf] at hsl
     clear htf
     go_wp2
     go_quiet (fail)
     go_wp2_with (go_at_call 69;refine (sign_eq _ N2.out l2 (by decide)).mono ?_;rintro e w3 ⟨rfl,hb3⟩;rw [show [94,45,92,91,93,47]=th2 from rfl])
     go_roundw
     case rel=>exact ⟨k+1,ac++escL th2 f++[45]++escL th2 t,by omega,by go_num,by simp,bel2 (below_drewN hbr2 _) hb3,by simp only [List.length_append,List.length_cons,List.length_nil];omega,Lib.hid (by rw [Hr.out,← HE.out];simp [rowS,HT2.out])⟩
     case measure=>simp [intOf];omega
 | true =>
  obtain ⟨T,hT⟩:∃ T,([91,94])++rs.flatMap rowS=T:=⟨_,rfl⟩
  have HT0:Hid (([91,94])++(rs.drop 0).flatMap rowS=T):=Lib.hid hT
  have HTL:T.length≤10000000:=by rw [← hT];have h:=hlen;simp only [setS,if_true,List.length_append,List.length_cons,List.length_nil] at h ⊢;omega
  have HTT:=Lib.hid hT
  clear hT hlen
  go_enter Tryz.func70,Tryz.ntmps70
  go_wp2
  rw [← hw0]
  clear hw0
  go_loopw [3,4] (fun s q wr=>StRel rs T w0 s q wr) (fun _ q _=>rs.length - (intOf q).toNat)
  case atStart=>exact ⟨0,[91,94],by omega,rfl,rfl,Below.refl _ _,by simp,HT0⟩
  case round =>
   obtain ⟨k,ac,hk,rfl,rfl,hb,hacl,HF⟩:=hrel
   clear HT0
   have hB:=hb.size
   have hbb:=hb0.trans (hb.mono hb0.size)
   have z3:=cell_kept hb _ _ Z3.out
   cases hd:rs.drop k with
   | nil =>
    have h2:rs.length≤k:=by simpa using hd
    have HE:Hid (ac=T):=Lib.hid (by rw [← HF.out,hd];simp)
    clear hd HF
    go_wp2
    go_ret
    exact ⟨ret_str (by rw [HE.out,← HTT.out];simp [setS]),hbb⟩
   | cons r0 r =>
    obtain ⟨h2,h3,hr0⟩:=ldrop_cons hd
    obtain ⟨n1,n2⟩:=HNE.out r0 (List.mem_of_getElem? h3)
    obtain ⟨b,o,rfl,hbB,c0,c1⟩:=(HR1.out.keep hbb).row h3
    obtain ⟨f,t⟩:=r0
    replace n1:f≠[]:=n1
    replace n2:t≠[]:=n2
    replace c0:wr.cell? ⟨b,o+k * 2,none⟩=some (.string ⟨(f).toArray⟩):=c0
    replace c1:wr.cell? ⟨b,o+k * 2+1,none⟩=some (.string ⟨(t).toArray⟩):=c1
    have HE:Hid (ac++(rowS (f,t)++r.flatMap rowS)=T):=Lib.hid (by rw [← HF.out,hd];rfl)
    have Hr:=Lib.hid hr0
    have hsl:ac.length+(escL th2 f).length+(if t=f then 0 else (escL th2 t).length+1)≤10000000:=by
     have h:=congrArg List.length HE.out
     simp only [List.length_append,rowS] at h
     split <;> simp_all <;> omega
    obtain ⟨l1,l2⟩:=HSZ.out (f,t) (List.mem_of_getElem? h3)
    replace l1:f.length≤1000000:=l1
    replace l2:t.length≤1000000:=l2
    have N1:=Lib.hid n1;have N2:=Lib.hid n2
    clear hd HF hr0 h3 n1 n2
    go_wp2_with (go_at_call 69;refine (sign_eq _ N1.out l1 (by decide)).mono ?_;rintro e w2 ⟨rfl,hb2⟩;rw [show [94,45,92,91,93,47]=th2 from rfl];have hbr2:=bel2 hb hb2;have y3:=cell_kept hb2 _ _ z3;have y0:=cell_kept hb2 _ _ c0;have y1:=cell_kept hb2 _ _ c1)
    by_cases htf:t=f
    ·have HT2:=Lib.hid htf
     subst htf
     go_wp2
     go_quiet (fail)
     go_wp2
     go_roundw
     case rel=>exact ⟨k+1,ac++escL th2 t,by omega,by go_num,rfl,below_drewN hbr2 _,by simp only [List.length_append];simp at hsl;omega,Lib.hid (by rw [Hr.out,← HE.out];simp [rowS])⟩
     case measure=>simp [intOf];omega
    ·have hne:(t == f)=false:=by simpa using htf
     have HT2:=Lib.hid htf
     rw [if_neg htf] at hsl
     clear htf
     go_wp2
     go_quiet (fail)
     go_wp2_with (go_at_call 69;refine (sign_eq _ N2.out l2 (by decide)).mono ?_;rintro e w3 ⟨rfl,hb3⟩;rw [show [94,45,92,91,93,47]=th2 from rfl])
     go_roundw
     case rel=>exact ⟨k+1,ac++escL th2 f++[45]++escL th2 t,by omega,by go_num,by simp,bel2 (below_drewN hbr2 _) hb3,by simp only [List.length_append,List.length_cons,List.length_nil];omega,Lib.hid (by rw [Hr.out,← HE.out];simp [rowS,HT2.out])⟩
     case measure=>simp [intOf];omega
end Go.Proofs.YtbmakifbppocaaaGreatDoor
