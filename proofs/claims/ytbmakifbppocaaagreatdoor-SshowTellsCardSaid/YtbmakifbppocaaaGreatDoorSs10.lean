/- walks of the references: ref15.show, Show -/
import Derived.Test.YtbmakifbppocaaaGreatDoorSs1
import Derived.Test.YtbmakifbppocaaaGreatDoorSs2
import Derived.Test.YtbmakifbppocaaaGreatDoorSs8
import Derived.Test.YtbmakifbppocaaaGreatDoorSs5
import Derived.Test.YtbmakifbppocaaaGreatDoorSs9
import Derived.Test.YtbmakifbppocaaaGreatDoorSs3
import Derived.Laws.OwnMore
import Derived.Deep.AppendLies
import Derived.Test.YtbmakifbppocaaaGreatDoorSs6
import Derived.Test.YtbmakifbppocaaaGreatDoorSs7
import Derived.Deep.LoopGhost
import Derived.IntWalk
import Derived.Maps.OwnSet
import Derived.Maps.Keyed
import Derived.Test.YtbmakifbppocaaaGreatDoorSs4
set_option maxRecDepth 100000
namespace Go.Proofs.YtbmakifbppocaaaGreatDoor
open Go.RowKit
def RsC (S:Nat→Prop) (x:Rx):Prop:=∀ (cc:List Value) (w:World),RxV w S cc x→x.tell.length≤10000000 →
  Calls Tryz.prog 52 #[.agg cc.toArray] w fun e w'=>e=.returned (.string ⟨(x.tell).toArray⟩)∧Below w.heap.size w w'
def RsRel (ks:List Rx) (f:List Rx→Str) (T:Str) (w1:World) (s q:Value) (wr:World):Prop :=
 ∃ (k:Nat) (acc:Str),k≤ks.length∧q=.int .i64 k∧s=.string ⟨(acc).toArray⟩∧Below w1.heap.size w1 wr∧Hid (acc++f (ks.drop k)=T)
theorem len1' {α:Type} {l:List α} (h:l.length=1):∃ a,l=[a]:=by
 match l,h with
 | [a],_=>exact ⟨a,rfl⟩
set_option maxHeartbeats 8000000 in
theorem RShow_any (S:Nat→Prop):∀ (N:Nat) (x:Rx),x.parts≤N→x.small→x.wf=true→RsC S x
 | 0,x,h,_,_=>by have:=Rx.parts_pos x;omega
 | N+1,.mk k c ng rs lo hi lz ks,h,hsm,hwf=>by
  intro cc w hv hlen
  obtain ⟨ra,rc,ka,kc,rfl,hrs,hx⟩:=hv.open_
  obtain ⟨⟨s1,s2,s3,s4⟩,hsmL⟩:=hsm
  obtain ⟨hf,hwl⟩:=wf_mk hwf
  simp only [Rx.parts] at h
  have ih:∀ y ∈ ks,RsC S y:=fun y hy=>RShow_any S N y (by have:=Rx.parts_mem hy;omega) (smallL_mem hsmL hy) (wfL_mem hwl hy)
  have IH:=Lib.hid ih
  obtain ⟨w0,hw0⟩:∃ w0,w0=w.alloc (.cells #[.int .i64 k,.string ⟨(c).toArray⟩,.bool ng,.slice ra rs.length rc,.int .i64 lo,.int .i64 hi,.bool lz,.slice ka ks.length kc] 32):=⟨_,rfl⟩
  have hb0:Below w.heap.size w w0:=by rw [hw0];exact (Below.refl _ _).alloc (Nat.le_refl _) _
  have hbx0:w0.heap[w.heap.size]?=some (.cells #[.int .i64 k,.string ⟨(c).toArray⟩,.bool ng,.slice ra rs.length rc,.int .i64 lo,.int .i64 hi,.bool lz,.slice ka ks.length kc] 32 (0,0)):=by rw [hw0];exact heap_alloc_new w _
  have HX:=Lib.hid (hx.later hb0)
  have HRS:=Lib.hid (hrs.keep (Kept.all hb0)).sl
  have HBX:=Lib.hid hbx0
  have HS3:=Lib.hid s3
  have hlw:=heap_lt hbx0
  clear hx hv hrs ih hsmL hbx0 s3 hwl hwf
  unfold rxc
  rcases kind_le hf with rfl | rfl | rfl | rfl | rfl | rfl | rfl | rfl | rfl | rfl | rfl | rfl
  ·obtain ⟨T,hT⟩:∃ T,(Rx.mk 0 c ng rs lo hi lz ks).tell=T:=⟨_,rfl⟩
   have HT0:Hid ([]++Rx.tellL (ks.drop 0)=T):=Lib.hid (by rw [← hT];simp [Rx.tell])
   rw [hT] at hlen ⊢
   clear hT hf
   go_enter Tryz.func52,Tryz.ntmps52
   go_wp2
   rw [← hw0]
   clear hw0
   go_loopw [3,4] (fun s q wr=>RsRel ks Rx.tellL T w0 s q wr) (fun _ q _=>ks.length - (intOf q).toNat)
   case atStart=>exact ⟨0,[],by omega,rfl,rfl,Below.refl _ _,HT0⟩
   case round =>
    obtain ⟨i,acc,hik,rfl,rfl,hb,HF⟩:=hrel
    clear HT0
    have hB:=hb.size
    have hbb:=hb0.trans (hb.mono hb0.size)
    have z7:=(bx_cells ((hb.block _ (heap_lt HBX.out)).trans HBX.out)).2.2.2.2.2.2.2.1
    cases hd:ks.drop i with
    | nil =>
     have h2:ks.length≤i:=by simpa using hd
     have HE:Hid (acc=T):=Lib.hid (by rw [← HF.out,hd];simp [Rx.tellL])
     clear hd HF
     go_wp2
     go_ret
     exact ⟨ret_str HE.out,hbb⟩
    | cons y r =>
     have hym:=fun h3=>IH.out y (List.mem_of_getElem? (i:=i) h3)
     have HYM:=Lib.hid hym
     clear hym
     obtain ⟨h2,h3,hr⟩:=ldrop_cons hd
     obtain ⟨yk,yc,yn,yr,yl,yh,yz,ys⟩:=y
     obtain ⟨b,o,ya,yrc,yka,ykc,rfl,hS,hbB,_,_,hyv,c0,c1,c2,c3,c4,c5,c6,c7⟩:=(HX.out.later hb).cells h3
     have hyp:=Rx.parts_mem (List.mem_of_getElem? h3)
     have Hr:=Lib.hid hr
     have HYV:=Lib.hid hyv
     unfold rxc at HYV
     have HYM2:=Lib.hid (HYM.out h3)
     have HE:Hid (acc++(Rx.tell (.mk yk yc yn yr yl yh yz ys)++Rx.tellL r)=T):=Lib.hid (by rw [← HF.out,hd];rfl)
     have hle:acc.length+(Rx.tell (.mk yk yc yn yr yl yh yz ys)).length≤10000000:=by
      have h:=congrArg List.length HE.out
      simp only [List.length_append] at h;omega
     clear hd HF hr h3 hyv HYM
     go_wp2_with (go_at_call 52;refine (HYM2.out _ _ HYV.out (by omega)).mono ?_;rintro e w1 ⟨rfl,hb1⟩)
     go_roundw
     case rel=>exact ⟨i+1,acc++Rx.tell (.mk yk yc yn yr yl yh yz ys),by omega,by go_num,rfl,bel2 hb hb1,Lib.hid (by rw [Hr.out,← HE.out];simp)⟩
     case measure=>simp [intOf];omega
  ·have h1:1 < ks.length:=by simp [fieldsB] at hf;exact hf.1.2
   obtain ⟨T,hT⟩:∃ T,(Rx.mk 1 c ng rs lo hi lz ks).tell=T:=⟨_,rfl⟩
   rw [hT] at hlen ⊢
   obtain ⟨y0,hy0⟩:∃ y0,ks[0]?=some y0:=⟨_,List.getElem?_eq_getElem (by omega)⟩
   have HT0:Hid (y0.tell++Rx.tellA true (ks.drop 1)=T):=Lib.hid (by
    rw [← hT]
    cases ks with
    | nil=>simp at h1
    | cons a l=>simp at hy0;subst hy0;simp [Rx.tell,Rx.tellA])
   have IHY:=Lib.hid (IH.out y0 (List.mem_of_getElem? hy0))
   obtain ⟨yk,yc,yn,yr,yl,yh,yz,ys⟩:=y0
   obtain ⟨b,o,ya,yrc,yka,ykc,rfl,hS,hbB,_,_,hyv,c0,c1,c2,c3,c4,c5,c6,c7⟩:=HX.out.cells hy0
   simp only [Nat.zero_mul,Nat.add_zero] at c0 c1 c2 c3 c4 c5 c6 c7
   have HYV:=Lib.hid hyv
   unfold rxc at HYV
   have hle:(Rx.tell (.mk yk yc yn yr yl yh yz ys)).length≤10000000:=by
    have h:=congrArg List.length HT0.out
    simp only [List.length_append] at h;omega
   clear hT hf hyv hy0
   rw [hw0] at c0 c1 c2 c3 c4 c5 c6 c7 HYV
   go_enter Tryz.func52,Tryz.ntmps52
   go_wp2_with (go_at_call 52;refine (IHY.out _ _ HYV.out hle).mono ?_)
   first | rintro e w1 rfl hb1 | rintro e w1 ⟨rfl,hb1⟩
   rw [← hw0] at hb1
   replace hb1:Below w0.heap.size w0 w1:=hb1.mono (by rw [hw0];simp)
   have HX1:=Lib.hid (HX.out.later hb1)
   have hbw1:=bel2 hb0 hb1
   have HBX1:=Lib.hid ((hb1.block _ (heap_lt HBX.out)).trans HBX.out)
   clear hb1 c0 c1 c2 c3 c4 c5 c6 c7 HYV hw0
   go_wp2
   go_loopw [5,6] (fun s q wr=>RsRel ks (Rx.tellA true) T w1 s q wr) (fun _ q _=>ks.length - (intOf q).toNat)
   case atStart=>exact ⟨1,_,by omega,rfl,rfl,Below.refl _ _,HT0⟩
   case round =>
    obtain ⟨i,acc,hik,rfl,rfl,hb,HF⟩:=hrel
    clear HT0
    have hB:=hb.size
    have hbb:=bel2 hbw1 hb
    have z7:=(bx_cells ((hb.block _ (heap_lt HBX1.out)).trans HBX1.out)).2.2.2.2.2.2.2.1
    cases hd:ks.drop i with
    | nil =>
     have h2:ks.length≤i:=by simpa using hd
     have HE:Hid (acc=T):=Lib.hid (by rw [← HF.out,hd];simp [Rx.tellA])
     clear hd HF
     go_wp2
     go_ret
     exact ⟨ret_str HE.out,hbb⟩
    | cons y r =>
     have hym:=fun h3=>IH.out y (List.mem_of_getElem? (i:=i) h3)
     have HYM:=Lib.hid hym
     clear hym
     obtain ⟨h2,h3,hr⟩:=ldrop_cons hd
     obtain ⟨zk,zc,zn,zr,zl,zh,zz,zs⟩:=y
     obtain ⟨b',o',za,zrc,zka,zkc,hbo,hS',hbB',_,_,hzv,d0,d1,d2,d3,d4,d5,d6,d7⟩:=(HX1.out.later hb).cells h3
     obtain ⟨rfl,rfl⟩:b=b'∧o=o':=by simpa using hbo
     have Hr:=Lib.hid hr
     have HZV:=Lib.hid hzv
     unfold rxc at HZV
     have HYM2:=Lib.hid (HYM.out h3)
     have HE:Hid (acc++([124]++(Rx.tell (.mk zk zc zn zr zl zh zz zs)++Rx.tellA true r))=T):=Lib.hid (by rw [← HF.out,hd];rfl)
     have hle2:acc.length+1+(Rx.tell (.mk zk zc zn zr zl zh zz zs)).length≤10000000:=by
      have h:=congrArg List.length HE.out
      simp only [List.length_append,List.length_cons,List.length_nil] at h;omega
     clear hd HF hr h3 hzv HYM hbo
     go_wp2_with (go_at_call 52;refine (HYM2.out _ _ HZV.out (by omega)).mono ?_;rintro e w2 ⟨rfl,hb2⟩)
     go_roundw
     case rel=>exact ⟨i+1,acc++[124]++Rx.tell (.mk zk zc zn zr zl zh zz zs),by omega,by go_num,by simp,bel2 hb hb2,Lib.hid (by rw [Hr.out,← HE.out];simp)⟩
     case measure=>simp [intOf];omega
  ·have hp:properB c=true:=by simp [fieldsB] at hf;exact hf.2
   have HP:=Lib.hid (proper_ne hp)
   clear hp hf
   go_enter Tryz.func52,Tryz.ntmps52
   go_wp2_with (go_at_call 69;refine (sign_eq _ HP.out s1 (by decide)).mono ?_;rintro e w1 ⟨rfl,hb1⟩)
   rw [← hw0] at hb1
   go_ret
   exact ⟨ret_str (by simp [Rx.tell];rfl),bel2 hb0 (hb1.mono (by rw [hw0];simp))⟩
  ·skip
   go_enter Tryz.func52,Tryz.ntmps52
   go_wp2
   rw [← hw0]
   go_ret
   exact ⟨ret_str (by simp [Rx.tell]),hb0⟩
  ·have hp:rowsB rs=true:=by simp [fieldsB] at hf;exact hf.2
   have HNE:=Lib.hid (rows_ne hp)
   have HT:Hid ((Rx.mk 4 c ng rs lo hi lz ks).tell=setS ng rs):=Lib.hid (by simp [Rx.tell])
   rw [HT.out] at hlen ⊢
   rw [hw0] at HRS
   clear hp hf
   go_enter Tryz.func52,Tryz.ntmps52
   go_wp2_with (go_at_call 70;refine (RSet_any _ _ _ _ rs _ _ _ _ _ _ _ _ HRS.out HNE.out HS3.out s2 hlen).mono ?_;rintro e w1 ⟨rfl,hb1⟩)
   rw [← hw0] at hb1
   go_ret
   exact ⟨rfl,bel2 hb0 (hb1.mono (by rw [hw0];simp))⟩
  ·have h1:ks.length=1:=by simp [fieldsB] at hf;exact hf.2
   obtain ⟨y,rfl⟩:=len1' h1
   obtain ⟨yk,yc,yn,yr,yl,yh,yz,ys⟩:=y
   obtain ⟨b,o,ya,yrc,yka,ykc,rfl,hS,hbB,_,_,hyv,c0,c1,c2,c3,c4,c5,c6,c7⟩:=HX.out.cells (m:=0) rfl
   simp only [Nat.zero_mul,Nat.add_zero] at c0 c1 c2 c3 c4 c5 c6 c7
   have HYV:=Lib.hid hyv
   unfold rxc at HYV
   have IHY:=Lib.hid (IH.out (.mk yk yc yn yr yl yh yz ys) (by simp))
   simp only [List.length_cons,List.length_nil,Nat.zero_add] at hw0 HBX ⊢
   clear hyv h1
   have HT:Hid ((Rx.mk 5 c ng rs lo hi lz [.mk yk yc yn yr yl yh yz ys]).tell=40 :: ((Rx.mk yk yc yn yr yl yh yz ys).tell++[41])):=Lib.hid (by simp [Rx.tell,Rx.tellL])
   rw [HT.out] at hlen ⊢
   simp only [List.length_append,List.length_cons,List.length_nil] at hlen
   rw [hw0] at c0 c1 c2 c3 c4 c5 c6 c7 HYV
   clear hf
   go_enter Tryz.func52,Tryz.ntmps52
   go_wp2_with (go_at_call 52;refine (IHY.out _ _ HYV.out (by omega)).mono ?_;rintro e w1 ⟨rfl,hb1⟩)
   rw [← hw0] at hb1
   go_ret
   exact ⟨ret_str (by simp),bel2 hb0 (hb1.mono (by rw [hw0];simp))⟩
  ·have h1:ks.length=1:=by simp [fieldsB] at hf;exact hf.2
   obtain ⟨y,rfl⟩:=len1' h1
   obtain ⟨yk,yc,yn,yr,yl,yh,yz,ys⟩:=y
   obtain ⟨b,o,ya,yrc,yka,ykc,rfl,hS,hbB,_,_,hyv,c0,c1,c2,c3,c4,c5,c6,c7⟩:=HX.out.cells (m:=0) rfl
   simp only [Nat.zero_mul,Nat.add_zero] at c0 c1 c2 c3 c4 c5 c6 c7
   have HYV:=Lib.hid hyv
   unfold rxc at HYV
   have IHY:=Lib.hid (IH.out (.mk yk yc yn yr yl yh yz ys) (by simp))
   simp only [List.length_cons,List.length_nil,Nat.zero_add] at hw0 HBX ⊢
   clear hyv h1
   have HT:Hid ((Rx.mk 6 c ng rs lo hi lz [.mk yk yc yn yr yl yh yz ys]).tell=40 :: 63 :: 58 :: ((Rx.mk yk yc yn yr yl yh yz ys).tell++[41])):=Lib.hid (by simp [Rx.tell,Rx.tellL])
   rw [HT.out] at hlen ⊢
   simp only [List.length_append,List.length_cons,List.length_nil] at hlen
   rw [hw0] at c0 c1 c2 c3 c4 c5 c6 c7 HYV
   clear hf
   go_enter Tryz.func52,Tryz.ntmps52
   go_wp2_with (go_at_call 52;refine (IHY.out _ _ HYV.out (by omega)).mono ?_;rintro e w1 ⟨rfl,hb1⟩)
   rw [← hw0] at hb1
   go_ret
   exact ⟨ret_str (by simp),bel2 hb0 (hb1.mono (by rw [hw0];simp))⟩
  ·simp only [fieldsB] at hf
   rw [if_neg (by decide),if_neg (by decide),if_pos trivial] at hf
   simp only [Bool.and_eq_true,decide_eq_true_eq] at hf
   obtain ⟨⟨_,g1⟩,g2,g3,g4⟩:=hf
   have h1:ks.length=1:=by
    match ks,g1 with
    | [y],_=>rfl
   obtain ⟨y,rfl⟩:=len1' h1
   obtain ⟨yk,yc,yn,yr,yl,yh,yz,ys⟩:=y
   obtain ⟨b,o,ya,yrc,yka,ykc,rfl,hS,hbB,_,_,hyv,c0,c1,c2,c3,c4,c5,c6,c7⟩:=HX.out.cells (m:=0) rfl
   simp only [Nat.zero_mul,Nat.add_zero] at c0 c1 c2 c3 c4 c5 c6 c7
   have HYV:=Lib.hid hyv
   unfold rxc at HYV
   have IHY:=Lib.hid (IH.out (.mk yk yc yn yr yl yh yz ys) (by simp))
   simp only [List.length_cons,List.length_nil,Nat.zero_add] at hw0 HBX ⊢
   clear hyv h1
   have HT:Hid ((Rx.mk 7 c ng rs lo hi lz [.mk yk yc yn yr yl yh yz ys]).tell=(Rx.mk yk yc yn yr yl yh yz ys).tell++oftS lo hi++(if lz=true then [63] else [])):=Lib.hid (by simp [Rx.tell,Rx.tellL])
   rw [HT.out] at hlen ⊢
   simp only [List.length_append] at hlen
   have HG4:=Lib.hid g4
   have HO:Hid (∀ w':World,Calls Tryz.prog 71 #[.int .i64 lo,.int .i64 hi] w' fun e w''=>e=.returned (.string ⟨(oftS lo hi).toArray⟩)∧Below w'.heap.size w' w''):=Lib.hid (fun w'=>many_any lo hi w' g2 g3 g4)
   have hbx:=bx_cells HBX.out
   have x4:∀ x:ExtOf w0,x.val.cell? ⟨w.heap.size,4,none⟩=some (.int .i64 lo):=ExtOf.cell hbx.2.2.2.2.1
   have x5:∀ x:ExtOf w0,x.val.cell? ⟨w.heap.size,5,none⟩=some (.int .i64 hi):=ExtOf.cell hbx.2.2.2.2.2.1
   have x6:∀ x:ExtOf w0,x.val.cell? ⟨w.heap.size,6,none⟩=some (.bool lz):=ExtOf.cell hbx.2.2.2.2.2.2.1
   have x7:∀ x:ExtOf w0,x.val.cell? ⟨w.heap.size,7,none⟩=some (.slice (some ⟨b,o,none⟩) 1 kc):=ExtOf.cell hbx.2.2.2.2.2.2.2.1
   have y0:=fun x:ExtOf w0=>ExtOf.cell c0 x
   have y1:=fun x:ExtOf w0=>ExtOf.cell c1 x
   have y2:=fun x:ExtOf w0=>ExtOf.cell c2 x
   have y3:=fun x:ExtOf w0=>ExtOf.cell c3 x
   have y4:=fun x:ExtOf w0=>ExtOf.cell c4 x
   have y5:=fun x:ExtOf w0=>ExtOf.cell c5 x
   have y6:=fun x:ExtOf w0=>ExtOf.cell c6 x
   have y7:=fun x:ExtOf w0=>ExtOf.cell c7 x
   have HYX:Hid (∀ x:ExtOf w0,RxV x.val S (rxc yk yc yn ya yr.length yrc yl yh yz yka ys.length ykc) (.mk yk yc yn yr yl yh yz ys)):=Lib.hid (fun x=>HYV.out.later x.ext)
   unfold rxc at HYX
   have hle:(Rx.tell (.mk yk yc yn yr yl yh yz ys)).length≤10000000:=by omega
   clear hbx g4 c0 c1 c2 c3 c4 c5 c6 c7 HYV
   go_enter Tryz.func52,Tryz.ntmps52
   go_wp2
   rw [← hw0]
   clear hw0
   refine wp_region_ext (by kernel_rfl) (by kernel_rfl) ?_
   repeat (go_big_quiet_step ((first | (go_at_call 52;exact ext_call (IHY.out _ _ (HYX.out _) hle)) | (go_at_call 71;exact ext_call (HO.out _)))))
   refine wpQuiet_nil ?_
   rintro _ ⟨xq,rfl⟩
   have z6:=x6 xq
   have hbb:=hb0.trans (xq.ext.mono hb0.size)
   cases lz with
   | false =>
    go_wp2
    go_ret
    exact ⟨ret_str (by simp),hbb⟩
   | true =>
    go_wp2
    go_ret
    exact ⟨ret_str (by simp),hbb⟩
  ·skip
   go_enter Tryz.func52,Tryz.ntmps52
   go_wp2
   rw [← hw0]
   go_ret
   exact ⟨ret_str (by simp [Rx.tell]),hb0⟩
  ·skip
   go_enter Tryz.func52,Tryz.ntmps52
   go_wp2
   rw [← hw0]
   go_ret
   exact ⟨ret_str (by simp [Rx.tell]),hb0⟩
  ·skip
   go_enter Tryz.func52,Tryz.ntmps52
   go_wp2
   rw [← hw0]
   go_ret
   exact ⟨ret_str (by simp [Rx.tell]),hb0⟩
  ·skip
   go_enter Tryz.func52,Tryz.ntmps52
   go_wp2
   rw [← hw0]
   go_ret
   exact ⟨ret_str (by simp [Rx.tell]),hb0⟩
theorem RxRShow_yes (S:Nat→Prop) (x:Rx) (cc:List Value) (w:World) (hm:x.parts≤1000000) (hsm:x.small) (hv:RxV w S cc x) (hmay:mayB x=true) (hlen:x.tell.length≤10000000) :
  Calls Tryz.prog 36 #[.agg cc.toArray] w fun e w'=>e=.returned (.tuple #[.string ⟨(x.tell).toArray⟩,.int .i64 0])∧Below w.heap.size w w':=by
 have hwf:x.wf=true:=by
  have h:=hmay;simp only [mayB,okB,Bool.and_eq_true] at h;exact h.1.1
 have HWF:=Lib.hid hwf
 have HLEN:=Lib.hid hlen
 clear hwf hlen
 obtain ⟨k,c,ng,rs,lo,hi,lz,ks⟩:=x
 obtain ⟨ra,rc,ka,kc,rfl,hrs,hx⟩:=hv.open_
 obtain ⟨w0,hw0⟩:∃ w0,w0=w.alloc (.cells #[.int .i64 k,.string ⟨(c).toArray⟩,.bool ng,.slice ra rs.length rc,.int .i64 lo,.int .i64 hi,.bool lz,.slice ka ks.length kc] 32):=⟨_,rfl⟩
 have hb0:Below w.heap.size w w0:=by rw [hw0];exact (Below.refl _ _).alloc (Nat.le_refl _) _
 have hbx0:w0.heap[w.heap.size]?=some (.cells #[.int .i64 k,.string ⟨(c).toArray⟩,.bool ng,.slice ra rs.length rc,.int .i64 lo,.int .i64 hi,.bool lz,.slice ka ks.length kc] 32 (0,0)):=by rw [hw0];exact heap_alloc_new w _
 have HV0:=Lib.hid (hv.later hb0)
 have HSM:=Lib.hid hsm
 have HMAY:=Lib.hid hmay
 have HBX0:=Lib.hid hbx0
 have HM:=Lib.hid hm
 rw [hw0] at HV0
 have HW0:=Lib.hid hw0
 clear hv hrs hx hsm hmay hbx0 hw0 hm
 unfold rxc at HV0 ⊢
 go_enter Tryz.func36,Tryz.ntmps36
 go_wp2_with (go_at_call 50;refine (RxRMay_any S _ _ _ HM.out HSM.out HV0.out).mono ?_)
 first | rintro e w1 rfl hb1 | rintro e w1 ⟨rfl,hb1⟩
 rw [HMAY.out]
 rw [← HW0.out] at hb1
 replace hb1:Below w0.heap.size w0 w1:=hb1.mono (by rw [HW0.out];simp)
 have hbw1:=bel2 hb0 hb1
 have HV1:=Lib.hid ((show RxV w0 S _ _ by rw [HW0.out];exact HV0.out).later hb1)
 obtain ⟨e0,e1,e2,e3,e4,e5,e6,e7,_⟩:=bx_cells ((hb1.block _ (heap_lt HBX0.out)).trans HBX0.out)
 clear hb1
 go_wp2_with (go_at_call 52;refine (RShow_any S _ _ (Nat.le_refl _) HSM.out HWF.out _ _ HV1.out HLEN.out).mono ?_;rintro e w2 ⟨rfl,hb2⟩)
 go_ret2
 exact ⟨rfl,bel2 hbw1 hb2⟩
end Go.Proofs.YtbmakifbppocaaaGreatDoor
set_option maxRecDepth 100000
namespace Go.Proofs.YtbmakifbppocaaaGreatDoor
open Go.RowKit
theorem rName_any (n:Int) (w:World) :
  Calls Tryz.prog 53 #[.int .i64 n] w fun e w'=>e=.returned (.string ⟨(nameOf n).toArray⟩)∧w=w':=by
 by_cases h:1≤n∧n≤5
 ·obtain ⟨h1,h2⟩:=h
  have hn:n=1∨n=2∨n=3∨n=4∨n=5:=by omega
  rcases hn with rfl | rfl | rfl | rfl | rfl
  all_goals
   go_enter Tryz.func53,Tryz.ntmps53
   go_wp2
   go_ret
   exact ⟨rfl,rfl⟩
 ·have hz:nameOf n=[]:=by
   unfold nameOf;rw [if_neg (by omega),if_neg (by omega),if_neg (by omega),if_neg (by omega),if_neg (by omega)]
  have e1:(n == 1)=false:=by rw [beq_eq_false_iff_ne];omega
  have e2:(n == 2)=false:=by rw [beq_eq_false_iff_ne];omega
  have e3:(n == 3)=false:=by rw [beq_eq_false_iff_ne];omega
  have e4:(n == 4)=false:=by rw [beq_eq_false_iff_ne];omega
  have e5:(n == 5)=false:=by rw [beq_eq_false_iff_ne];omega
  rw [hz]
  go_enter Tryz.func53,Tryz.ntmps53
  go_wp2
  go_ret
  exact ⟨rfl,rfl⟩
end Go.Proofs.YtbmakifbppocaaaGreatDoor
set_option maxRecDepth 100000
namespace Go.Proofs.YtbmakifbppocaaaGreatDoor
open Go.RowKit
def MyRel (fs:List Fm) (R:Bool) (w:World) (q:Value) (wr:World):Prop :=
 ∃ (k:Nat) (pt:Bool),k≤fs.length∧q=.int .i64 k∧Below w.heap.size w wr∧Hid ((k=0→pt=false)∧(0 < k→∀ g,fs[k - 1]?=some g→decide (g.kind=0)=pt))∧Hid (mayL pt (fs.drop k)=R)
set_option maxRecDepth 100000 in
set_option maxHeartbeats 4000000 in
theorem rMay_any (a:Option Addr) (n c:Nat) (fs:List Fm) (w:World) (h:Sl w w.heap.size a 5 n (fcells fs)) (hn:n≤1000000) :
  Calls Tryz.prog 51 #[.slice a n c] w fun e w'=>e=.returned (.bool (mayFs fs))∧Below w.heap.size w w':=by
 generalize hR:mayFs fs=R
 have HR:=Lib.hid hR
 clear hR
 have HR0:Hid (mayL false (fs.drop 0)=R):=HR
 obtain rfl:=h.fs_len
 have HSl:=Lib.hid h
 clear HR h
 go_enter Tryz.func51,Tryz.ntmps51
 go_wp2
 go_loopw [3] (fun q wr=>MyRel fs R w q wr) (fun q _=>fs.length - (intOf q).toNat)
 case atStart=>exact ⟨0,false,by omega,rfl,Below.refl _ _,Lib.hid ⟨fun _=>rfl,fun h=>by omega⟩,HR0⟩
 case round =>
  obtain ⟨k,pt,hk,rfl,hb,HP,HF⟩:=hrel
  clear HR0
  have hB:=hb.size
  cases hd:fs.drop k with
  | nil =>
   have h2:fs.length≤k:=by simpa using hd
   have HF':Hid (R=true):=Lib.hid (by rw [← HF.out,hd];rfl)
   clear hd HF
   go_wp2
   go_ret
   exact ⟨ret_bool HF'.out.symm,hb⟩
  | cons f r =>
   obtain ⟨h2,h3,hr⟩:=ldrop_cons hd
   have HF':Hid (mayL pt (f :: r)=R):=Lib.hid (by rw [← hd];exact HF.out)
   have Hr:=Lib.hid hr
   have HK:=Lib.hid h3
   obtain ⟨b,o,rfl,hbB,c0,c1,c2,c3,c4⟩:=(HSl.out.keep hb).fm h3
   clear hd HF hr h3
   obtain ⟨kind,fn,cse,thn,els⟩:=f
   have HQ:Hid (R=(mayF ⟨kind,fn,cse,thn,els⟩ && !(decide (kind=0) && pt) && mayL (decide (kind=0)) r)):=Lib.hid HF'.out.symm
   by_cases hk0:kind=0
   ·subst hk0
    clear HF'
    by_cases hkk:k=0
    ·have hpt:=HP.out.1 hkk
     have hkk':((k:Int) == 0)=true:=by rw [beq_iff_eq];omega
     subst hpt
     have HKK:=Lib.hid hkk;clear hkk
     go_wp2
     all_goals first
      | (go_ret;refine ⟨ret_bool ?_,hb.alloc hB _⟩;rw [HQ.out];clear HQ HK HSl Hr HP c0 c1 c2 c3 c4;(try unfold mayF blankB);simp;first | done | omega | (simp_all;done) | (simp_all;omega))
      | (go_roundw;(case rel=>exact ⟨k+1,true,by omega,by go_num,hb.alloc hB _,Lib.hid ⟨fun h=>by omega,fun _ g hg=>by rw [show k+1 - 1=k from rfl,HK.out] at hg;injection hg with hg;subst hg;rfl⟩,Lib.hid (by rw [Hr.out,HQ.out];clear HQ HK HSl Hr HP c0 c1 c2 c3 c4;(try unfold mayF blankB);simp;first | done | omega | (simp_all;done) | (simp_all;omega))⟩);(case measure=>simp [intOf];omega))
    ·obtain ⟨g,hg⟩:∃ g,fs[k - 1]?=some g:=⟨fs[k - 1]'(by omega),List.getElem?_eq_getElem (by omega)⟩
     have hpg:=HP.out.2 (by omega) g hg
     obtain ⟨b',o',hab,_,g0,_⟩:=(HSl.out.keep hb).fm hg
     have hbo:b'=b∧o'=o:=by simpa using hab.symm
     obtain ⟨rfl,rfl⟩:=hbo
     have ek:((k - 1:Nat):Int)=(k:Int) - 1:=by omega
     have e1:(k:Int) - 1 < fs.length∧0≤(k:Int) - 1:=by omega
     have hkk':((k:Int) == 0)=false:=by rw [beq_eq_false_iff_ne];omega
     have hkp:0 < k:=by omega
     obtain ⟨gk,gn,gc,gt,ge⟩:=g
     have HPG:Hid (pt=decide (gk=0)):=Lib.hid hpg.symm
     have g1:∀ ob:Obj,(wr.alloc ob).cell? ⟨b',o'+(k - 1) * 5,none⟩=some (.int .i64 gk):=fun ob=>by
      rw [World.cell?_alloc_lt _ _ _ (by simp;omega)];exact g0
     clear hab hpg hkk hg
     by_cases hgk:gk=0
     ·have HQ2:Hid (R=false):=Lib.hid (by rw [HQ.out,HPG.out];simp [hgk])
      subst hgk
      clear HQ
      go_wp2
      all_goals (go_ret;exact ⟨ret_bool HQ2.out.symm,hb.alloc hB _⟩)
     ·have hpf:pt=false:=by rw [HPG.out];simp [hgk]
      have eg:(gk == 0)=false:=by rw [beq_eq_false_iff_ne];exact hgk
      subst hpf
      clear hgk HPG
      go_wp2
      all_goals first
       | (go_ret;refine ⟨ret_bool ?_,hb.alloc hB _⟩;rw [HQ.out];clear HQ HK HSl Hr HP c0 c1 c2 c3 c4;(try unfold mayF blankB);simp;first | done | omega | (simp_all;done) | (simp_all;omega))
       | (go_roundw;(case rel=>exact ⟨k+1,true,by omega,by go_num,hb.alloc hB _,Lib.hid ⟨fun h=>by omega,fun _ g hg=>by rw [show k+1 - 1=k from rfl,HK.out] at hg;injection hg with hg;subst hg;rfl⟩,Lib.hid (by rw [Hr.out,HQ.out];clear HQ HK HSl Hr HP c0 c1 c2 c3 c4;(try unfold mayF blankB);simp;first | done | omega | (simp_all;done) | (simp_all;omega))⟩);(case measure=>simp [intOf];omega))
   by_cases hk1:kind=1
   ·subst hk1
    clear HF'
    go_wp2
    all_goals first
     | (go_ret;refine ⟨ret_bool ?_,hb.alloc hB _⟩;rw [HQ.out];clear HQ HK HSl Hr HP c0 c1 c2 c3 c4;(try unfold mayF blankB);simp;first | done | omega | (simp_all;done) | (simp_all;omega))
     | (go_roundw;(case rel=>exact ⟨k+1,false,by omega,by go_num,hb.alloc hB _,Lib.hid ⟨fun h=>by omega,fun _ g hg=>by rw [show k+1 - 1=k from rfl,HK.out] at hg;injection hg with hg;subst hg;rfl⟩,Lib.hid (by rw [Hr.out,HQ.out];clear HQ HK HSl Hr HP c0 c1 c2 c3 c4;(try unfold mayF blankB);simp;first | done | omega | (simp_all;done) | (simp_all;omega))⟩);(case measure=>simp [intOf];omega))
   by_cases hk2:kind=2
   ·subst hk2
    clear HF'
    obtain ⟨nm,hnm⟩:∃ nm,nameOf cse=nm:=⟨_,rfl⟩
    have HNM:=Lib.hid hnm
    have HQ2:Hid (R=(decide (0≤fn∧fn≤9999) && decide (nm≠[]) && decide (thn=[]) && decide (els=[]) && mayL false r)):=Lib.hid (by
     rw [HQ.out];simp only [mayF,blankB];rw [if_neg (by decide),if_neg (by decide),if_pos trivial,hnm,Bool.eq_iff_iff];simp;intro _;constructor <;> (intro h;simp_all))
    clear hnm HQ
    have HQ:=HQ2
    cases nm with
    | nil =>
     go_wp2_with (go_at_call 53;refine (rName_any _ _).mono ?_;rintro e w1 ⟨rfl,rfl⟩;rw [HNM.out])
     all_goals
      (go_ret;refine ⟨ret_bool ?_,hb.alloc hB _⟩;rw [HQ.out];clear HQ HK HSl Hr HP c0 c1 c2 c3 c4;(try unfold mayF blankB);simp;first | done | omega | (simp_all;done) | (simp_all;omega))
    | cons n0 nr =>
     go_wp2_with (go_at_call 53;refine (rName_any _ _).mono ?_;rintro e w1 ⟨rfl,rfl⟩;rw [HNM.out])
     all_goals first
      | (go_ret;refine ⟨ret_bool ?_,hb.alloc hB _⟩;rw [HQ.out];clear HQ HK HSl Hr HP c0 c1 c2 c3 c4;(try unfold mayF blankB);simp;first | done | omega | (simp_all;done) | (simp_all;omega))
      | (go_roundw;(case rel=>exact ⟨k+1,false,by omega,by go_num,hb.alloc hB _,Lib.hid ⟨fun h=>by omega,fun _ g hg=>by rw [show k+1 - 1=k from rfl,HK.out] at hg;injection hg with hg;subst hg;rfl⟩,Lib.hid (by rw [Hr.out,HQ.out];clear HQ HK HSl Hr HP c0 c1 c2 c3 c4;(try unfold mayF blankB);simp;first | done | omega | (simp_all;done) | (simp_all;omega))⟩);(case measure=>simp [intOf];omega))
   by_cases hk3:kind=3
   ·subst hk3
    clear HF'
    go_wp2
    all_goals first
     | (go_ret;refine ⟨ret_bool ?_,hb.alloc hB _⟩;rw [HQ.out];clear HQ HK HSl Hr HP c0 c1 c2 c3 c4;(try unfold mayF blankB);simp;first | done | omega | (simp_all;done) | (simp_all;omega))
     | (go_roundw;(case rel=>exact ⟨k+1,false,by omega,by go_num,hb.alloc hB _,Lib.hid ⟨fun h=>by omega,fun _ g hg=>by rw [show k+1 - 1=k from rfl,HK.out] at hg;injection hg with hg;subst hg;rfl⟩,Lib.hid (by rw [Hr.out,HQ.out];clear HQ HK HSl Hr HP c0 c1 c2 c3 c4;(try unfold mayF blankB);simp;first | done | omega | (simp_all;done) | (simp_all;omega))⟩);(case measure=>simp [intOf];omega))
   by_cases hk4:kind=4
   ·subst hk4
    clear HF'
    go_wp2
    all_goals first
     | (go_ret;refine ⟨ret_bool ?_,hb.alloc hB _⟩;rw [HQ.out];clear HQ HK HSl Hr HP c0 c1 c2 c3 c4;(try unfold mayF blankB);simp;first | done | omega | (simp_all;done) | (simp_all;omega))
     | (go_roundw;(case rel=>exact ⟨k+1,false,by omega,by go_num,hb.alloc hB _,Lib.hid ⟨fun h=>by omega,fun _ g hg=>by rw [show k+1 - 1=k from rfl,HK.out] at hg;injection hg with hg;subst hg;rfl⟩,Lib.hid (by rw [Hr.out,HQ.out];clear HQ HK HSl Hr HP c0 c1 c2 c3 c4;(try unfold mayF blankB);simp;first | done | omega | (simp_all;done) | (simp_all;omega))⟩);(case measure=>simp [intOf];omega))
   by_cases hk5:kind=5
   ·subst hk5
    clear HF'
    go_wp2
    all_goals first
     | (go_ret;refine ⟨ret_bool ?_,hb.alloc hB _⟩;rw [HQ.out];clear HQ HK HSl Hr HP c0 c1 c2 c3 c4;(try unfold mayF blankB);simp;first | done | omega | (simp_all;done) | (simp_all;omega))
     | (go_roundw;(case rel=>exact ⟨k+1,false,by omega,by go_num,hb.alloc hB _,Lib.hid ⟨fun h=>by omega,fun _ g hg=>by rw [show k+1 - 1=k from rfl,HK.out] at hg;injection hg with hg;subst hg;rfl⟩,Lib.hid (by rw [Hr.out,HQ.out];clear HQ HK HSl Hr HP c0 c1 c2 c3 c4;(try unfold mayF blankB);simp;first | done | omega | (simp_all;done) | (simp_all;omega))⟩);(case measure=>simp [intOf];omega))
   ·have HE:Hid (R=false):=Lib.hid (by
     rw [HQ.out];simp only [mayF]
     rw [if_neg hk0,if_neg hk1,if_neg hk2,if_neg hk3,if_neg hk4,if_neg hk5];simp)
    have g0:(kind == 0)=false:=by simpa using hk0
    have g1:(kind == 1)=false:=by simpa using hk1
    have g2:(kind == 2)=false:=by simpa using hk2
    have g3:(kind == 3)=false:=by simpa using hk3
    have g4:(kind == 4)=false:=by simpa using hk4
    have g5:(kind == 5)=false:=by simpa using hk5
    clear hk0 hk1 hk2 hk3 hk4 hk5 HQ HF'
    go_wp2
    all_goals (go_ret;exact ⟨ret_bool HE.out.symm,hb.alloc hB _⟩)
end Go.Proofs.YtbmakifbppocaaaGreatDoor
set_option maxRecDepth 100000
namespace Go.Proofs.YtbmakifbppocaaaGreatDoor
open Go.RowKit
def repU (th:Str) (c:UInt8):Str:=th.flatMap fun x=>if x=c then [92] else []
def quotD (th l:Str):Str:=l.flatMap fun c=>repU th c++[c]
theorem rep_eq (c:UInt8):∀ {th:Str},th.Nodup→repU th c=if th.contains c=true then [92] else []
 | [],_=>by simp [repU]
 | x :: r,h=>by
  rw [List.nodup_cons] at h
  have ih:=rep_eq c h.2
  have he:repU (x :: r) c=(if x=c then [92] else [])++repU r c:=by simp [repU]
  rw [he,ih,List.contains_cons]
  by_cases hx:x=c
  ·subst hx
   have:r.contains x=false:=by simpa using h.1
   rw [if_pos rfl,this];simp
  ·rw [if_neg hx]
   have:(c == x)=false:=by simpa using fun e=>hx e.symm
   rw [this];simp
theorem quotD_eq {th:Str} (h:th.Nodup):∀ l:Str,quotD th l=quot th l
 | []=>by simp [quotD,quot]
 | c :: r=>by
  have ih:=quotD_eq h r
  have he:quotD th (c :: r)=repU th c++[c]++quotD th r:=by simp [quotD]
  rw [he,ih,rep_eq c h]
  simp only [quot]
  split <;> simp
theorem rep_len (c:UInt8):∀ th:Str,(repU th c).length≤th.length
 | []=>by simp [repU]
 | x :: r=>by
  have ih:=rep_len c r
  have he:repU (x :: r) c=(if x=c then [92] else [])++repU r c:=by simp [repU]
  rw [he,List.length_append]
  split <;> simp <;> omega
theorem quotD_len (th:Str):∀ l:Str,(quotD th l).length≤l.length * (th.length+1)
 | []=>by simp [quotD]
 | c :: r=>by
  have ih:=quotD_len th r
  have hr:=rep_len c th
  have he:quotD th (c :: r)=repU th c++[c]++quotD th r:=by simp [quotD]
  rw [he,List.length_append,List.length_append,List.length_cons,List.length_cons,Nat.succ_mul]
  simp;omega
theorem u8_info2:(Tryz.prog.info? 5).map (fun i=>(i.zero,i.size,i.bytes))=some (some (.int .u8 0),1,1):=by kernel_rfl
theorem ownsRow_drewN {w:World} {B:Nat} {e:TypeId} {sz:Nat} {v:Value} {n:Nat} {xs:List Value} (h:w.ownsRow B e sz v n xs) (k:Nat):(w.drewN k).ownsRow B e sz v n xs:=h
def GdRel (th l R:Str) (w:World) (v q:Value) (wr:World):Prop :=
 ∃ (i:Nat) (bs:Str),i≤l.length∧q=.int .i64 i∧wr.ownsRow w.heap.size 5 1 v bs.length (bcells bs)∧Below w.heap.size w wr∧bs.length≤20000000∧Hid (bs++quotD th (l.drop i)=R)
def GiRel (th:Str) (c:UInt8) (s R:Str) (w:World) (v q:Value) (wr:World):Prop :=
 ∃ (k:Nat) (bs:Str),k≤th.length∧q=.int .i64 k∧wr.ownsRow w.heap.size 5 1 v bs.length (bcells bs)∧Below w.heap.size w wr∧bs.length≤20000000∧Hid (bs++(repU (th.drop k) c++(c :: s))=R)
set_option maxHeartbeats 4000000 in
theorem Guard_any (l th:Str) (w:World) (hs:l.length≤1000000) (ht:th.length≤9) (hnd:th.Nodup) :
  Calls Tryz.prog 25 #[.string ⟨(l).toArray⟩,.string ⟨(th).toArray⟩] w fun e w'=>e=.returned (.string ⟨(quot th l).toArray⟩)∧Below w.heap.size w w':=by
 rw [← quotD_eq hnd]
 have hlen:=quotD_len th l
 have h10:l.length * (th.length+1)≤1000000 * 10:=Nat.mul_le_mul hs (by omega)
 obtain ⟨R,hR⟩:∃ R,quotD th l=R:=⟨_,rfl⟩
 rw [hR] at hlen ⊢
 have HR0:Hid (([]:Str)++quotD th (l.drop 0)=R):=Lib.hid (by simpa using hR)
 obtain ⟨iu,hiu⟩:=info_parts u8_info2
 have hRl:R.length≤10000000:=by omega
 clear hR hnd hlen h10
 go_enter Tryz.func25,Tryz.ntmps25
 go_wp2
 go_loopw [5,6] (fun v q wr=>GdRel th l R w v q wr) (fun _ q _=>l.length - (intOf q).toNat)
 case atStart=>exact ⟨0,[],by omega,rfl,World.ownsRow_nil _ _ _ _,Below.refl _ _,by simp,HR0⟩
 case round =>
  obtain ⟨i,bs,hik,rfl,hown,hb,hbl,HF⟩:=hrel
  clear HR0
  have hB:=hb.size
  cases hd:l.drop i with
  | nil =>
   have h2:=drop_nil hd
   have HE:Hid (bs=R):=Lib.hid (by rw [← HF.out,hd];simp [quotD])
   obtain ⟨a,c,rfl⟩:=own_form hown
   have hcv:=conv_own (P:=Tryz.prog) Tryz.underlying41 Tryz.underlying5 Tryz.underlying9 hown
   clear hd HF
   go_wp2
   go_ret
   exact ⟨ret_str HE.out,hb⟩
  | cons c r =>
   obtain ⟨h2,h3,hr⟩:=drop_cons hd
   have Hr:=Lib.hid hr
   have hc256:=u8_lt c
   obtain ⟨T,hT⟩:∃ T,quotD th r=T:=⟨_,rfl⟩
   have HK0:Hid (bs++(repU (th.drop 0) c++(c :: T))=R):=Lib.hid (by rw [← HF.out,hd,← hT];simp [quotD])
   have HT:=Lib.hid hT
   clear hd HF hr hT
   obtain ⟨wo,rfl⟩:∃ wo:World,wo=wr:=⟨_,rfl⟩
   go_wp2
   go_loopw [5,7] (fun v q wk=>GiRel th c T R w v q wk) (fun _ q _=>th.length - (intOf q).toNat)
   case atStart=>exact ⟨0,bs,by omega,rfl,hown,hb,hbl,HK0⟩
   case round =>
    obtain ⟨k,bk,hkk,rfl,hownk,hbk,hblk,HG⟩:=hrel
    clear HK0 hown
    have hBk:=hbk.size
    have hbkl:bk.length+T.length+1≤10000000:=by
     have h:=congrArg List.length HG.out
     simp only [List.length_append,List.length_cons] at h;omega
    obtain ⟨a,cp,rfl⟩:=own_form hownk
    cases hdk:th.drop k with
    | nil =>
     have h4:=drop_nil hdk
     have HE:Hid (bk++(c :: T)=R):=Lib.hid (by rw [← HG.out,hdk];simp [repU])
     clear hdk HG
     go_wp2_with (at_builtin;refine wpList_app1 w.heap.size 5 rfl _ _ 41 rfl Tryz.underlying41 hiu rfl (by decide) rfl hownk rfl (by first | rfl | simp) rfl (by simp [Value.oneCell']) (by omega) (by decide) hBk ?_)
     intro v1 w1 ho1 hg1 hb1 hne1
     go_wp2
     exact ⟨⟨i+1,bk++[c],by omega,by go_num,by simpa [bcells] using ho1,hbk.trans (hb1.mono (Nat.le_refl _)),by simp;omega,Lib.hid (by rw [Hr.out,HT.out,← HE.out];simp)⟩,by simp [intOf];omega⟩
    | cons x s =>
     obtain ⟨h4,h5,hs⟩:=drop_cons hdk
     have Hs:=Lib.hid hs
     have hx256:=u8_lt x
     have HG2:Hid (bk++((if x=c then [92] else [])++(repU s c++(c :: T)))=R):=Lib.hid (by rw [← HG.out,hdk];simp [repU])
     clear hdk HG hs
     by_cases hxc:x=c
     ·have HE:Hid (bk++([92]++(repU s c++(c :: T)))=R):=Lib.hid (by rw [← HG2.out,if_pos hxc])
      subst hxc
      clear HG2
      go_wp2
      go_quiet (fail)
      go_wp2_with (at_builtin;refine wpList_app1 w.heap.size 5 rfl _ _ 41 rfl Tryz.underlying41 hiu rfl (by decide) rfl (ownsRow_drewN hownk _) rfl (by first | rfl | simp) rfl (by simp [Value.oneCell']) (by omega) (by decide) (below_drewN hbk _).size ?_)
      intro v1 w1 ho1 hg1 hb1 hne1
      go_wp2
      go_roundw
      case rel=>exact ⟨k+1,bk++[92],by omega,by go_num,by simpa [bcells] using ho1,(below_drewN hbk _).trans (hb1.mono (Nat.le_refl _)),by simp;omega,Lib.hid (by rw [Hs.out,← HE.out];simp)⟩
      case measure=>simp [intOf];omega
     ·have hne:((x.toNat:Int) == c.toNat)=false:=by
       rw [beq_eq_false_iff_ne];intro e;exact hxc (UInt8.toNat_inj.1 (by omega))
      have HE:Hid (bk++(repU s c++(c :: T))=R):=Lib.hid (by rw [← HG2.out,if_neg hxc];simp)
      clear HG2 hxc
      go_wp2
      go_quiet (fail)
      go_wp2
      go_roundw
      case rel=>exact ⟨k+1,bk,by omega,by go_num,ownsRow_drewN hownk _,below_drewN hbk _,hblk,Lib.hid (by rw [Hs.out];exact HE.out)⟩
      case measure=>simp [intOf];omega
end Go.Proofs.YtbmakifbppocaaaGreatDoor
set_option maxRecDepth 100000
namespace Go.Proofs.YtbmakifbppocaaaGreatDoor
open Go.RowKit
theorem bel3 {W w0 w1:World} (h:Below W.heap.size W w0) (h1:Below w0.heap.size w0 w1):Below W.heap.size W w1:=h.trans (h1.mono h.size)
theorem Digits_eq2 {n:Int} (w:World) (h0:0≤n) (h1:n≤10000) :
  Calls Tryz.prog 24 #[.int .i64 n] w fun e w'=>e=.returned (.string ⟨(dec n).toArray⟩)∧Below w.heap.size w w':=by
 obtain ⟨m,rfl⟩:=Int.eq_ofNat_of_zero_le h0
 exact Digits_any m w (by omega)
def SfRel (fs:List Fm) (m:Nat) (R:Str) (w:World) (s q:Value) (wr:World):Prop :=
 ∃ (k:Nat) (acc:Str),k≤fs.length∧q=.int .i64 k∧s=.string ⟨(acc).toArray⟩∧Below w.heap.size w wr∧Hid (acc.length≤k * m)∧Hid (acc++showF (fs.drop k)=R)
set_option maxRecDepth 100000 in
set_option maxHeartbeats 4000000 in
theorem rShow_any (a:Option Addr) (c m:Nat) (fs:List Fm) (w:World) (h:Sl w w.heap.size a 5 fs.length (fcells fs))
  (hf:∀ f ∈ fs,f.thn.length≤m∧f.els.length≤m) (hm:m≤10000) (hn:fs.length≤1000) (hmay:mayFs fs=true) :
  Calls Tryz.prog 37 #[.slice a fs.length c] w fun e w'=>e=.returned (.tuple #[.string ⟨(showF fs).toArray⟩,.int .i64 0])∧Below w.heap.size w w':=by
 have HSl:=Lib.hid h
 obtain ⟨R,hR⟩:∃ R,R=showF fs:=⟨_,rfl⟩
 rw [← hR]
 have HR:=Lib.hid hR
 have HF:=Lib.hid hf
 have HMY:=Lib.hid hmay
 have HM:=Lib.hid (mayL_all _ _ hmay)
 clear hR hf h hmay
 go_enter Tryz.func37,Tryz.ntmps37
 go_wp2_with (go_at_call 51;refine (rMay_any _ _ _ fs _ HSl.out (by omega)).mono ?_;rintro e w0 ⟨rfl,hb0⟩;rw [HMY.out])
 have hB0:=hb0.size
 go_loopw [4,5] (fun s q wr=>SfRel fs (4 * m+20) R w s q wr) (fun _ q _=>fs.length - (intOf q).toNat)
 case atStart=>exact ⟨0,[],by omega,rfl,rfl,hb0,Lib.hid (by simp),Lib.hid (by rw [HR.out];rfl)⟩
 case round =>
  obtain ⟨k,acc,hk,rfl,rfl,hb,HL,HRR⟩:=hrel
  clear HR
  have hB:=hb.size
  have hacc:acc.length≤50000000:=Nat.le_trans HL.out (Nat.le_trans (Nat.mul_le_mul (show k≤1000 by omega) (show 4 * m+20≤40020 by omega)) (by decide))
  cases hd:fs.drop k with
  | nil =>
   have h2:fs.length≤k:=by simpa using hd
   have HE:Hid (acc=R):=Lib.hid (by rw [← HRR.out,hd];simp [showF])
   clear hd HRR
   go_wp2
   go_ret2
   exact ⟨by rw [HE.out];rfl,hb⟩
  | cons f r =>
   obtain ⟨h2,h3,hr⟩:=ldrop_cons hd
   have Hr:=Lib.hid hr
   have hfm:=List.mem_of_getElem? h3
   have hmf:=HM.out f hfm
   obtain ⟨f1,f2⟩:=HF.out f hfm
   obtain ⟨n0,n1⟩:=mayF_n hmf
   have HRR2:Hid (acc++(showP f++showF r)=R):=Lib.hid (by rw [← HRR.out,hd];rfl)
   have HPL:=Lib.hid (showP_len hmf f1 f2)
   have hkind:=mayF_kind hmf
   obtain ⟨b,o,rfl,hbB,c0,c1,c2,c3,c4⟩:=(HSl.out.keep hb).fm h3
   obtain ⟨kind,fn,cse,thn,els⟩:=f
   replace f1:thn.length≤m:=f1
   replace f2:els.length≤m:=f2
   replace n0:0≤fn:=n0
   replace n1:fn≤9999:=n1
   have q1:=quot_len [36,125,92,47,58] thn
   have q2:=quot_len [36,125,92,47,58] els
   have q3:=quot_len [36,125,92,47] thn
   have q4:=nameOf_length cse
   have q5:=dec_len n0 n1
   obtain ⟨wb,hwb⟩:∃ wb,wb=wr.alloc (.cells #[.int .i64 kind,.int .i64 fn,.int .i64 cse,.string ⟨(thn).toArray⟩,.string ⟨(els).toArray⟩] 65):=⟨_,rfl⟩
   have hbb:Below wr.heap.size wr wb:=by rw [hwb];exact (Below.refl _ _).alloc (Nat.le_refl _) _
   have z0:wb.cell? ⟨wr.heap.size,0,none⟩=some (.int .i64 kind):=by rw [hwb];simp
   have z2:wb.cell? ⟨wr.heap.size,2,none⟩=some (.int .i64 cse):=by rw [hwb];simp
   have z3:wb.cell? ⟨wr.heap.size,3,none⟩=some (.string ⟨(thn).toArray⟩):=by rw [hwb];simp
   have z4:wb.cell? ⟨wr.heap.size,4,none⟩=some (.string ⟨(els).toArray⟩):=by rw [hwb];simp
   have Z0:=Lib.hid z0
   have Z2:=Lib.hid z2
   have Z3:=Lib.hid z3
   have Z4:=Lib.hid z4
   have HWB:=Lib.hid hwb
   clear hd HRR hr h3 hfm hmf z0 z2 z3 z4 hwb
   go_wp2_with (go_at_call 24;refine (Digits_eq2 _ (by omega) (by omega)).mono ?_)
   first | rintro e w1 rfl hb1 | rintro e w1 ⟨rfl,hb1⟩
   rw [← HWB.out] at hb1
   replace hb1:Below wb.heap.size wb w1:=hb1.mono (by rw [HWB.out];simp)
   have y3:∀ x:ExtOf w1,x.val.cell? ⟨wr.heap.size,3,none⟩=some (.string ⟨(thn).toArray⟩):=ExtOf.cell (cell_kept hb1 _ _ Z3.out)
   have y4:∀ x:ExtOf w1,x.val.cell? ⟨wr.heap.size,4,none⟩=some (.string ⟨(els).toArray⟩):=ExtOf.cell (cell_kept hb1 _ _ Z4.out)
   have Y0:=Lib.hid (fun x:ExtOf w1=>ExtOf.cell (cell_kept hb1 _ _ Z0.out) x)
   have Y2:=Lib.hid (fun x:ExtOf w1=>ExtOf.cell (cell_kept hb1 _ _ Z2.out) x)
   have hbw1:Below w.heap.size w w1:=bel3 (bel3 hb hbb) hb1
   clear hb1 hbb
   go_wp2
   refine wp_region_ext (by kernel_rfl) (by kernel_rfl) ?_
   repeat (go_big_quiet_step ((go_at_call 25;exact ext_call (Guard_any _ _ _ (by omega) (by decide) (by decide)))))
   refine wpQuiet_nil ?_
   rintro _ ⟨xq,rfl⟩
   have u0:=Y0.out xq
   have u2:=Y2.out xq
   have u3:=y3 xq
   have hbx:Below w.heap.size w xq.val:=bel3 hbw1 xq.ext
   replace hkind:kind=0∨kind=1∨kind=2∨kind=3∨kind=4∨kind=5:=hkind
   rcases hkind with rfl | rfl | rfl | rfl | rfl | rfl
   ·go_wp2_with (go_at_call 25;refine (Guard_any _ _ _ (by omega) (by decide) (by decide)).mono ?_;rintro e w3 ⟨rfl,hb3⟩)
    go_roundw
    case rel =>
     refine ⟨k+1,acc++showP ⟨0,fn,cse,thn,els⟩,by omega,by go_num,?_,bel3 hbx hb3,Lib.hid ?_,Lib.hid ?_⟩
     ·first | (simp [showP];done) | (simp [showP,five];done) | (simp [showP,five,four];done)
     ·have:=HL.out;have h5:=HPL.out;rw [List.length_append];rw [Nat.succ_mul];omega
     ·rw [Hr.out,List.append_assoc,← HRR2.out]
    case measure=>simp [intOf];omega
   ·go_wp2
    go_roundw
    case rel =>
     refine ⟨k+1,acc++showP ⟨1,fn,cse,thn,els⟩,by omega,by go_num,?_,hbx,Lib.hid ?_,Lib.hid ?_⟩
     ·first | (simp [showP];done) | (simp [showP,five];done) | (simp [showP,five,four];done)
     ·have:=HL.out;have h5:=HPL.out;rw [List.length_append];rw [Nat.succ_mul];omega
     ·rw [Hr.out,List.append_assoc,← HRR2.out]
    case measure=>simp [intOf];omega
   ·go_wp2_with (go_at_call 53;refine (rName_any _ _).mono ?_;rintro e w3 ⟨rfl,rfl⟩)
    go_roundw
    case rel =>
     refine ⟨k+1,acc++showP ⟨2,fn,cse,thn,els⟩,by omega,by go_num,?_,hbx,Lib.hid ?_,Lib.hid ?_⟩
     ·first | (simp [showP];done) | (simp [showP,five];done) | (simp [showP,five,four];done)
     ·have:=HL.out;have h5:=HPL.out;rw [List.length_append];rw [Nat.succ_mul];omega
     ·rw [Hr.out,List.append_assoc,← HRR2.out]
    case measure=>simp [intOf];omega
   ·go_wp2
    go_roundw
    case rel =>
     refine ⟨k+1,acc++showP ⟨3,fn,cse,thn,els⟩,by omega,by go_num,?_,hbx,Lib.hid ?_,Lib.hid ?_⟩
     ·first | (simp [showP];done) | (simp [showP,five];done) | (simp [showP,five,four];done)
     ·have:=HL.out;have h5:=HPL.out;rw [List.length_append];rw [Nat.succ_mul];omega
     ·rw [Hr.out,List.append_assoc,← HRR2.out]
    case measure=>simp [intOf];omega
   ·go_wp2
    go_roundw
    case rel =>
     refine ⟨k+1,acc++showP ⟨4,fn,cse,thn,els⟩,by omega,by go_num,?_,hbx,Lib.hid ?_,Lib.hid ?_⟩
     ·first | (simp [showP];done) | (simp [showP,five];done) | (simp [showP,five,four];done)
     ·have:=HL.out;have h5:=HPL.out;rw [List.length_append];rw [Nat.succ_mul];omega
     ·rw [Hr.out,List.append_assoc,← HRR2.out]
    case measure=>simp [intOf];omega
   ·go_wp2
    go_roundw
    case rel =>
     refine ⟨k+1,acc++showP ⟨5,fn,cse,thn,els⟩,by omega,by go_num,?_,hbx,Lib.hid ?_,Lib.hid ?_⟩
     ·first | (simp [showP];done) | (simp [showP,five];done) | (simp [showP,five,four];done)
     ·have:=HL.out;have h5:=HPL.out;rw [List.length_append];rw [Nat.succ_mul];omega
     ·rw [Hr.out,List.append_assoc,← HRR2.out]
    case measure=>simp [intOf];omega
end Go.Proofs.YtbmakifbppocaaaGreatDoor
set_option maxRecDepth 100000
namespace Go.Proofs.YtbmakifbppocaaaGreatDoor
open Go.RowKit
set_option maxHeartbeats 1000000 in
theorem R19May_any (S:Nat→Prop) (f:Tf) (hsm:f.small) (fc:List Value) (w:World) (hv:TfV w S fc f) :
  Calls Tryz.prog 35 #[.agg fc.toArray] w fun e w'=>e=.returned (.bool (tfMay f))∧Below w.heap.size w w':=by
 obtain ⟨rk,rch,rng,rrs,rlo,rhi,rlz,rks,ra,rcp,rka,rkc,fa,fcp,hc⟩:=hv.open_
 obtain ⟨X,fs,fd,al⟩:=f
 obtain ⟨hx,hp,hfs⟩:=hsm
 have hx1:X=.mk rk rch rng rrs rlo rhi rlz rks:=hc.rx
 have hfce:fc=[.int .i64 rk,.string ⟨(rch).toArray⟩,.bool rng,.slice ra rrs.length rcp,.int .i64 rlo,.int .i64 rhi,.bool rlz,.slice rka rks.length rkc,.slice fa fs.length fcp,.bool fd,.bool al]:=hc.eq
 obtain ⟨W0,hW0⟩:∃ W0,W0=w.alloc (.cells fc.toArray 35):=⟨_,rfl⟩
 have hb0:Below w.heap.size w W0:=by rw [hW0];exact (Below.refl _ _).alloc (Nat.le_refl _) _
 have HB1:Hid (W0.heap[w.heap.size]?=some (.cells fc.toArray 35 (0,0))):=Lib.hid (by rw [hW0];exact heap_alloc_new w _)
 have HXV:Hid (RxV W0 S [.int .i64 rk,.string ⟨(rch).toArray⟩,.bool rng,.slice ra rrs.length rcp,.int .i64 rlo,.int .i64 rhi,.bool rlz,.slice rka rks.length rkc] X):=Lib.hid (hx1 ▸ hc.rv.later hb0)
 have HFS:Hid (SlS W0 S fa 5 fs.length (fcells fs)):=Lib.hid (hc.fv.keep (Kept.all hb0))
 have HXS:=Lib.hid hx
 have HP:=Lib.hid hp
 have HFL:=Lib.hid hfs
 have HTM:Hid (tfMay ⟨X,fs,fd,al⟩=(mayB X && mayFs fs)):=Lib.hid rfl
 subst hfce
 have HW0:=Lib.hid hW0
 rw [HTM.out]
 clear hv hc hx hx1 hW0 hfs hp HTM
 have HRM:=Lib.hid (RxRMay_any S X _ W0 HP.out HXS.out HXV.out)
 cases hm:mayB X with
 | false =>
  rw [hm] at HRM
  clear hm
  go_enter Tryz.func35,Tryz.ntmps35
  go_upto_region 1 with fail
  rw [← HW0.out]
  clear HW0
  go_wp2_with (first
   | (refine wpList_ldW rfl 32 (.tmp 3) rfl w.heap.size 0 rfl [.int .i64 rk,.string ⟨(rch).toArray⟩,.bool rng,.slice ra rrs.length rcp,.int .i64 rlo,.int .i64 rhi,.bool rlz,.slice rka rks.length rkc] _ (range_blk (ds:=[.slice fa fs.length fcp,.bool fd,.bool al]) HB1.out) rx_under rfl (by rw [rx_size];rfl) ?_)
   | (go_at_call 50;refine HRM.out.mono ?_))
  first | rintro e w1 rfl hb1 | rintro e w1 ⟨rfl,hb1⟩
  go_wp2
  go_ret
  exact ⟨rfl,bel2 hb0 hb1⟩
 | true =>
  rw [hm] at HRM
  clear hm
  go_enter Tryz.func35,Tryz.ntmps35
  go_upto_region 1 with fail
  rw [← HW0.out]
  clear HW0
  go_wp2_with (first
   | (refine wpList_ldW rfl 32 (.tmp 3) rfl w.heap.size 0 rfl [.int .i64 rk,.string ⟨(rch).toArray⟩,.bool rng,.slice ra rrs.length rcp,.int .i64 rlo,.int .i64 rhi,.bool rlz,.slice rka rks.length rkc] _ (range_blk (ds:=[.slice fa fs.length fcp,.bool fd,.bool al]) HB1.out) rx_under rfl (by rw [rx_size];rfl) ?_)
   | (go_at_call 50;refine HRM.out.mono ?_))
  first | rintro e w1 rfl hb1 | rintro e w1 ⟨rfl,hb1⟩
  have hx1:=(hb1.block _ (heap_lt HB1.out)).trans HB1.out
  have z8:=blk_cell hx1 8 rfl
  have HM:=Lib.hid (rMay_any fa fs.length fcp fs w1 (HFS.out.keep (Kept.all hb1)).sl HFL.out)
  clear hx1
  go_wp2_with (go_at_call 51;refine HM.out.mono ?_)
  first | rintro e w2 rfl hb2 | rintro e w2 ⟨rfl,hb2⟩
  go_wp2
  go_ret
  exact ⟨by simp,bel2 (bel2 hb0 hb1) hb2⟩
set_option maxHeartbeats 2000000 in
theorem R19Show_yes (S:Nat→Prop) (f:Tf) (hti:f.tiny) (hm:tfMay f=true) (fc:List Value) (w:World) (hv:TfV w S fc f) :
  Calls Tryz.prog 26 #[.agg fc.toArray] w fun e w'=>e=.returned (.tuple #[.string ⟨(formS f).toArray⟩,.int .i64 0])∧Below w.heap.size w w':=by
 obtain ⟨rk,rch,rng,rrs,rlo,rhi,rlz,rks,ra,rcp,rka,rkc,fa,fcp,hc⟩:=hv.open_
 obtain ⟨W0,hW0⟩:∃ W0,W0=w.alloc (.cells fc.toArray 35):=⟨_,rfl⟩
 have hb0:Below w.heap.size w W0:=by rw [hW0];exact (Below.refl _ _).alloc (Nat.le_refl _) _
 have HB1:Hid (W0.heap[w.heap.size]?=some (.cells fc.toArray 35 (0,0))):=Lib.hid (by rw [hW0];exact heap_alloc_new w _)
 have HFL:=Lib.hid hv.len
 have HMY:=Lib.hid (R19May_any S f hti.1 fc W0 (hv.keep (Kept.all hb0)))
 rw [hm] at HMY
 have HW0:=Lib.hid hW0
 obtain ⟨X,fs,fd,al⟩:=f
 obtain ⟨⟨hx,hp,hfs⟩,t2,t3,t4,t5⟩:=hti
 have hx1:X=.mk rk rch rng rrs rlo rhi rlz rks:=hc.rx
 have hfce:fc=[.int .i64 rk,.string ⟨(rch).toArray⟩,.bool rng,.slice ra rrs.length rcp,.int .i64 rlo,.int .i64 rhi,.bool rlz,.slice rka rks.length rkc,.slice fa fs.length fcp,.bool fd,.bool al]:=hc.eq
 have HXV:Hid (RxV W0 S [.int .i64 rk,.string ⟨(rch).toArray⟩,.bool rng,.slice ra rrs.length rcp,.int .i64 rlo,.int .i64 rhi,.bool rlz,.slice rka rks.length rkc] X):=Lib.hid (hx1 ▸ hc.rv.later hb0)
 have HFS:Hid (SlS W0 S fa 5 fs.length (fcells fs)):=Lib.hid (hc.fv.keep (Kept.all hb0))
 have hm2:(mayB X && mayFs fs)=true:=hm
 rw [Bool.and_eq_true] at hm2
 have HMX:=Lib.hid hm2.1
 have HMF:=Lib.hid hm2.2
 have HPP:=Lib.hid hp
 have HXS:=Lib.hid hx
 have hTL:X.tell.length≤1000000:=t4
 have hTF:(showF fs).length≤1000000:=t5
 have HTL:Hid (X.tell.length≤10000000):=Lib.hid (by omega)
 have HG:Hid (∀ g ∈ fs,g.thn.length≤10000∧g.els.length≤10000):=Lib.hid t3
 have HFN:Hid (fs.length≤1000):=Lib.hid t2
 have HFO:Hid (formS ⟨X,fs,fd,al⟩=47 :: (X.tell++47 :: (showF fs++47 :: ((if al=true then [103] else [])++(if fd=true then [105] else []))))):=Lib.hid rfl
 have HFCE:=Lib.hid hfce
 clear hv hc hx hx1 hW0 hp hfs hm hm2 t2 t3 t4 t5 hfce
 cases al with
 | true =>
  cases fd with
  | true =>
   go_enter Tryz.func26,Tryz.ntmps26
   go_upto_region 1 with fail
   rw [← HW0.out]
   clear HW0
   go_wp2_with (first
    | (refine wpList_ldW rfl 35 (.tmp 1) rfl w.heap.size 0 rfl fc _ (range_blk (ds:=[]) (by simpa using HB1.out)) form_under rfl (by rw [form_size,HFL.out]) ?_)
    | (go_at_call 35;refine HMY.out.mono ?_))
   first | rintro e w1 rfl hb1 | rintro e w1 ⟨rfl,hb1⟩
   have HX1:=Lib.hid ((hb1.block _ (heap_lt HB1.out)).trans HB1.out)
   have HRX:=Lib.hid (RxRShow_yes S X _ w1 HPP.out HXS.out (HXV.out.later hb1) HMX.out HTL.out)
   go_wp2_with (first
    | (refine wpList_ldW rfl 32 (.tmp 13) rfl w.heap.size 0 rfl [.int .i64 rk,.string ⟨(rch).toArray⟩,.bool rng,.slice ra rrs.length rcp,.int .i64 rlo,.int .i64 rhi,.bool rlz,.slice rka rks.length rkc] _ (range_blk (ds:=[.slice fa fs.length fcp,.bool true,.bool true]) (HFCE.out ▸ HX1.out)) rx_under rfl (by rw [rx_size];rfl) ?_)
    | (go_at_call 36;refine HRX.out.mono ?_))
   first | rintro e w2 rfl hb2 | rintro e w2 ⟨rfl,hb2⟩
   have HX2:=Lib.hid ((hb2.block _ (heap_lt HX1.out)).trans HX1.out)
   have z8:=blk_cell (HFCE.out ▸ HX2.out) 8 rfl
   have hbw2:=bel2 (bel2 hb0 hb1) hb2
   have HFS2:=Lib.hid (rShow_any fa fcp 10000 fs w2 (HFS.out.keep (Kept.all ((hb1.trans (hb2.mono hb1.size))))).sl HG.out (by omega) HFN.out HMF.out)
   go_wp2_with (go_at_call 37;refine HFS2.out.mono ?_)
   first | rintro e w3 rfl hb3 | rintro e w3 ⟨rfl,hb3⟩
   have HX3:=Lib.hid ((hb3.block _ (heap_lt HX2.out)).trans HX2.out)
   have z10:=blk_cell (HFCE.out ▸ HX3.out) 10 rfl
   have z9:=blk_cell (HFCE.out ▸ HX3.out) 9 rfl
   have hbw3:=bel2 hbw2 hb3
   clear z8
   go_wp2
   go_ret2
   exact ⟨by rw [HFO.out];simp,hbw3⟩
  | false =>
   go_enter Tryz.func26,Tryz.ntmps26
   go_upto_region 1 with fail
   rw [← HW0.out]
   clear HW0
   go_wp2_with (first
    | (refine wpList_ldW rfl 35 (.tmp 1) rfl w.heap.size 0 rfl fc _ (range_blk (ds:=[]) (by simpa using HB1.out)) form_under rfl (by rw [form_size,HFL.out]) ?_)
    | (go_at_call 35;refine HMY.out.mono ?_))
   first | rintro e w1 rfl hb1 | rintro e w1 ⟨rfl,hb1⟩
   have HX1:=Lib.hid ((hb1.block _ (heap_lt HB1.out)).trans HB1.out)
   have HRX:=Lib.hid (RxRShow_yes S X _ w1 HPP.out HXS.out (HXV.out.later hb1) HMX.out HTL.out)
   go_wp2_with (first
    | (refine wpList_ldW rfl 32 (.tmp 13) rfl w.heap.size 0 rfl [.int .i64 rk,.string ⟨(rch).toArray⟩,.bool rng,.slice ra rrs.length rcp,.int .i64 rlo,.int .i64 rhi,.bool rlz,.slice rka rks.length rkc] _ (range_blk (ds:=[.slice fa fs.length fcp,.bool false,.bool true]) (HFCE.out ▸ HX1.out)) rx_under rfl (by rw [rx_size];rfl) ?_)
    | (go_at_call 36;refine HRX.out.mono ?_))
   first | rintro e w2 rfl hb2 | rintro e w2 ⟨rfl,hb2⟩
   have HX2:=Lib.hid ((hb2.block _ (heap_lt HX1.out)).trans HX1.out)
   have z8:=blk_cell (HFCE.out ▸ HX2.out) 8 rfl
   have hbw2:=bel2 (bel2 hb0 hb1) hb2
   have HFS2:=Lib.hid (rShow_any fa fcp 10000 fs w2 (HFS.out.keep (Kept.all ((hb1.trans (hb2.mono hb1.size))))).sl HG.out (by omega) HFN.out HMF.out)
   go_wp2_with (go_at_call 37;refine HFS2.out.mono ?_)
   first | rintro e w3 rfl hb3 | rintro e w3 ⟨rfl,hb3⟩
   have HX3:=Lib.hid ((hb3.block _ (heap_lt HX2.out)).trans HX2.out)
   have z10:=blk_cell (HFCE.out ▸ HX3.out) 10 rfl
   have z9:=blk_cell (HFCE.out ▸ HX3.out) 9 rfl
   have hbw3:=bel2 hbw2 hb3
   clear z8
   go_wp2
   go_ret2
   exact ⟨by rw [HFO.out];simp,hbw3⟩
 | false =>
  cases fd with
  | true =>
   go_enter Tryz.func26,Tryz.ntmps26
   go_upto_region 1 with fail
   rw [← HW0.out]
   clear HW0
   go_wp2_with (first
    | (refine wpList_ldW rfl 35 (.tmp 1) rfl w.heap.size 0 rfl fc _ (range_blk (ds:=[]) (by simpa using HB1.out)) form_under rfl (by rw [form_size,HFL.out]) ?_)
    | (go_at_call 35;refine HMY.out.mono ?_))
   first | rintro e w1 rfl hb1 | rintro e w1 ⟨rfl,hb1⟩
   have HX1:=Lib.hid ((hb1.block _ (heap_lt HB1.out)).trans HB1.out)
   have HRX:=Lib.hid (RxRShow_yes S X _ w1 HPP.out HXS.out (HXV.out.later hb1) HMX.out HTL.out)
   go_wp2_with (first
    | (refine wpList_ldW rfl 32 (.tmp 13) rfl w.heap.size 0 rfl [.int .i64 rk,.string ⟨(rch).toArray⟩,.bool rng,.slice ra rrs.length rcp,.int .i64 rlo,.int .i64 rhi,.bool rlz,.slice rka rks.length rkc] _ (range_blk (ds:=[.slice fa fs.length fcp,.bool true,.bool false]) (HFCE.out ▸ HX1.out)) rx_under rfl (by rw [rx_size];rfl) ?_)
    | (go_at_call 36;refine HRX.out.mono ?_))
   first | rintro e w2 rfl hb2 | rintro e w2 ⟨rfl,hb2⟩
   have HX2:=Lib.hid ((hb2.block _ (heap_lt HX1.out)).trans HX1.out)
   have z8:=blk_cell (HFCE.out ▸ HX2.out) 8 rfl
   have hbw2:=bel2 (bel2 hb0 hb1) hb2
   have HFS2:=Lib.hid (rShow_any fa fcp 10000 fs w2 (HFS.out.keep (Kept.all ((hb1.trans (hb2.mono hb1.size))))).sl HG.out (by omega) HFN.out HMF.out)
   go_wp2_with (go_at_call 37;refine HFS2.out.mono ?_)
   first | rintro e w3 rfl hb3 | rintro e w3 ⟨rfl,hb3⟩
   have HX3:=Lib.hid ((hb3.block _ (heap_lt HX2.out)).trans HX2.out)
   have z10:=blk_cell (HFCE.out ▸ HX3.out) 10 rfl
   have z9:=blk_cell (HFCE.out ▸ HX3.out) 9 rfl
   have hbw3:=bel2 hbw2 hb3
   clear z8
   go_wp2
   go_ret2
   exact ⟨by rw [HFO.out];simp,hbw3⟩
  | false =>
   go_enter Tryz.func26,Tryz.ntmps26
   go_upto_region 1 with fail
   rw [← HW0.out]
   clear HW0
   go_wp2_with (first
    | (refine wpList_ldW rfl 35 (.tmp 1) rfl w.heap.size 0 rfl fc _ (range_blk (ds:=[]) (by simpa using HB1.out)) form_under rfl (by rw [form_size,HFL.out]) ?_)
    | (go_at_call 35;refine HMY.out.mono ?_))
   first | rintro e w1 rfl hb1 | rintro e w1 ⟨rfl,hb1⟩
   have HX1:=Lib.hid ((hb1.block _ (heap_lt HB1.out)).trans HB1.out)
   have HRX:=Lib.hid (RxRShow_yes S X _ w1 HPP.out HXS.out (HXV.out.later hb1) HMX.out HTL.out)
   go_wp2_with (first
    | (refine wpList_ldW rfl 32 (.tmp 13) rfl w.heap.size 0 rfl [.int .i64 rk,.string ⟨(rch).toArray⟩,.bool rng,.slice ra rrs.length rcp,.int .i64 rlo,.int .i64 rhi,.bool rlz,.slice rka rks.length rkc] _ (range_blk (ds:=[.slice fa fs.length fcp,.bool false,.bool false]) (HFCE.out ▸ HX1.out)) rx_under rfl (by rw [rx_size];rfl) ?_)
    | (go_at_call 36;refine HRX.out.mono ?_))
   first | rintro e w2 rfl hb2 | rintro e w2 ⟨rfl,hb2⟩
   have HX2:=Lib.hid ((hb2.block _ (heap_lt HX1.out)).trans HX1.out)
   have z8:=blk_cell (HFCE.out ▸ HX2.out) 8 rfl
   have hbw2:=bel2 (bel2 hb0 hb1) hb2
   have HFS2:=Lib.hid (rShow_any fa fcp 10000 fs w2 (HFS.out.keep (Kept.all ((hb1.trans (hb2.mono hb1.size))))).sl HG.out (by omega) HFN.out HMF.out)
   go_wp2_with (go_at_call 37;refine HFS2.out.mono ?_)
   first | rintro e w3 rfl hb3 | rintro e w3 ⟨rfl,hb3⟩
   have HX3:=Lib.hid ((hb3.block _ (heap_lt HX2.out)).trans HX2.out)
   have z10:=blk_cell (HFCE.out ▸ HX3.out) 10 rfl
   have z9:=blk_cell (HFCE.out ▸ HX3.out) 9 rfl
   have hbw3:=bel2 hbw2 hb3
   clear z8
   go_wp2
   go_ret2
   exact ⟨by rw [HFO.out];simp,hbw3⟩
end Go.Proofs.YtbmakifbppocaaaGreatDoor
