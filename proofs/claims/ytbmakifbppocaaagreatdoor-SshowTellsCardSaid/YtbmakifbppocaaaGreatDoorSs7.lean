/- walk of fmts.Show -/
import Derived.Test.YtbmakifbppocaaaGreatDoorSs1
import Derived.Test.YtbmakifbppocaaaGreatDoorSs2
import Derived.Test.YtbmakifbppocaaaGreatDoorSs3
import Derived.Test.YtbmakifbppocaaaGreatDoorSs6
import Derived.Test.YtbmakifbppocaaaGreatDoorSs5
import Derived.Deep.RegionHeld3
import Derived.Deep.DrawnRows
import Derived.Deep.LoopGhost
import Derived.IntWalk
import Derived.Maps.OwnSet
import Derived.Maps.Keyed
import Derived.Test.YtbmakifbppocaaaGreatDoorSs4
set_option maxRecDepth 100000
namespace Go.Proofs.YtbmakifbppocaaaGreatDoor
open Go.RowKit
attribute [local go_sem ↓] Go.wp_at_zero Go.wp_at_succ
theorem quoted_kept (l th:Str) (w:World) (hs:l.length≤1000000) :
  Calls Tryz.prog 64 #[.string ⟨(l).toArray⟩,.string ⟨(th).toArray⟩] w fun e w'=>e=.returned (.string ⟨(quot th l).toArray⟩)∧Below w.heap.size w w'∧∀ a u,w.cell? a=some u→w'.cell? a=some u :=
 (quoted_any l th w hs).mono fun _ _ ⟨h1,h2⟩=>⟨h1,h2,cell_kept h2⟩
def ShRel (fs:List Fm) (g m:Nat) (w:World) (R:Str) (q:Value) (wr:World):Prop :=
 ∃ (k:Nat) (acc:Str),k≤fs.length∧q=.int .i64 k∧Bld w.heap.size g acc wr∧Below w.heap.size w wr∧Hid (acc.length≤k * m)∧Hid (acc++showF (fs.drop k)=R)
theorem showP_len {f:Fm} {m:Nat} (hm:mayF f=true) (h1:f.thn.length≤m) (h2:f.els.length≤m):(showP f).length≤4 * m+20:=by
 obtain ⟨n0,n1⟩:=mayF_n hm
 have h3:=dec_len n0 n1
 have h4:=quot_len five f.thn
 have h5:=quot_len five f.els
 have h6:=quot_len four f.thn
 have h7:=nameOf_length f.cse
 unfold showP
 (repeat' split) <;> simp <;> omega
set_option maxRecDepth 100000 in
set_option maxHeartbeats 4000000 in
theorem Show_any (a:Option Addr) (c m:Nat) (fs:List Fm) (w:World) (h:Sl w w.heap.size a 5 fs.length (fcells fs)) (ht:Tab w)
  (hf:∀ f ∈ fs,f.thn.length≤m∧f.els.length≤m) (hm:m≤10000) (hn:fs.length≤1000) (hmay:mayFs fs=true) :
  Calls Tryz.prog 46 #[.slice a fs.length c] w fun e w'=>e=.returned (.tuple #[.string ⟨(showF fs).toArray⟩,.int .i64 0])∧Below w.heap.size w w':=by
 have HSl:=Lib.hid h
 have HT:=Lib.hid ht
 obtain ⟨R,hR⟩:∃ R,R=showF fs:=⟨_,rfl⟩
 rw [← hR]
 have HR:=Lib.hid hR
 have HF:=Lib.hid hf
 have HM:=Lib.hid (mayL_all _ _ hmay)
 clear hR hf h ht
 go_enter Tryz.func46,Tryz.ntmps46
 go_wp2_with (go_at_call 62;refine (May_any _ _ _ fs _ HSl.out (by omega)).mono ?_;rintro e w0 ⟨rfl,hb0⟩)
 have hB0:=hb0.size
 go_loopw [15] (fun q wr=>ShRel fs w0.heap.size (4 * m+20) w R q wr) (fun q _=>fs.length - (intOf q).toNat)
 case atStart=>exact ⟨0,[],by omega,rfl,Bld.fresh _ _ hB0,hb0.alloc hB0 _,Lib.hid (by simp),Lib.hid (by rw [HR.out];rfl)⟩
 case round =>
  obtain ⟨k,acc,hk,rfl,hbl,hb,HL,HRR⟩:=hrel
  clear HR
  have hB:=hb.size
  have hacc:acc.length≤50000000:=Nat.le_trans HL.out (Nat.le_trans (Nat.mul_le_mul (show k≤1000 by omega) (show 4 * m+20≤40020 by omega)) (by decide))
  cases hd:fs.drop k with
  | nil =>
   have h2:fs.length≤k:=by simpa using hd
   have HR:Hid (R=acc):=Lib.hid (by rw [← HRR.out,hd];simp [showF])
   clear hd HRR
   go_wp2_with (go_at_call 11;refine (String_any _ _ _ _ hbl hB).mono ?_;rintro e w1 ⟨rfl,hb1⟩)
   go_ret2
   exact ⟨by rw [HR.out];rfl,hb.trans hb1⟩
  | cons f r =>
   obtain ⟨h2,h3,hr⟩:=ldrop_cons hd
   have HR:Hid (R=acc++(showP f++showF r)):=Lib.hid (by rw [← HRR.out,hd];simp [showF])
   have Hr:=Lib.hid hr
   have hmem:=List.mem_of_getElem? h3
   have hmf:=HM.out f hmem
   obtain ⟨b,o,rfl,hbB,c0,c1,c2,c3,c4⟩:=(HSl.out.keep hb).fm h3
   obtain ⟨z1,z2⟩:=HF.out f hmem
   have HPL:=Lib.hid (showP_len hmf z1 z2)
   obtain ⟨n0,n1⟩:=mayF_n hmf
   have hkind:=mayF_kind hmf
   clear hd HRR hr h3 hmem hmf
   obtain ⟨kind,fn,cse,thn,els⟩:=f
   replace z1:thn.length≤m:=z1
   replace z2:els.length≤m:=z2
   replace n0:0≤fn:=n0
   replace n1:fn≤9999:=n1
   obtain ⟨d0,d1⟩:=dec_len n0 n1
   have HKI:=Lib.hid hkind
   clear hkind
   have htw:Tab (wr.alloc (.cells #[.int .i64 kind,.int .i64 fn,.int .i64 cse,.string ⟨(thn).toArray⟩,.string ⟨(els).toArray⟩] 65)):=HT.out.keep ((hb.mono (Nat.le_refl _)).alloc hB _)
   have HTW:=Lib.hid htw
   clear htw
   go_wp2_with (go_at_call 19;refine (Itoa_any fn _ n0 (by omega) HTW.out).mono ?_)
   first | rintro e w1 rfl hb1 | rintro e w1 ⟨rfl,hb1⟩
   have z0:w1.cell? ⟨wr.heap.size,0,none⟩=some (.int .i64 kind):=cell_kept2 hb1 (by simp) (by simp)
   have z3:w1.cell? ⟨wr.heap.size,2,none⟩=some (.int .i64 cse):=cell_kept2 hb1 (by simp) (by simp)
   have z4:w1.cell? ⟨wr.heap.size,3,none⟩=some (.string ⟨(thn).toArray⟩):=cell_kept2 hb1 (by simp) (by simp)
   have z5:w1.cell? ⟨wr.heap.size,4,none⟩=some (.string ⟨(els).toArray⟩):=cell_kept2 hb1 (by simp) (by simp)
   go_wp2
   go_region_held3 (fun w'=>w'.cell? ⟨wr.heap.size,0,none⟩=some (.int .i64 kind)∧w'.cell? ⟨wr.heap.size,2,none⟩=some (.int .i64 cse)∧w'.cell? ⟨wr.heap.size,3,none⟩=some (.string ⟨(thn).toArray⟩)∧w'.cell? ⟨wr.heap.size,4,none⟩=some (.string ⟨(els).toArray⟩)) (go_keep)
    (first | (go_at_call 64;refine (quoted_kept _ _ _ (by omega)).mono ?_;rintro e w2 ⟨rfl,hb2,hc2⟩))
   rename_i wa hba hca hheld
   obtain ⟨y0,y2,y3,y4⟩:=hheld
   have hbl1:Bld w.heap.size w0.heap.size acc w1:=(hbl.alloc _).below (hb1.mono (by simp))
   have hbl2:Bld w.heap.size w0.heap.size acc w2:=(Bld.below (w:=w1.drew) hbl1 hba).below hb2
   have hbw1:Below w.heap.size w w1:=(hb.alloc hB _).trans (hb1.mono (by omega))
   have hz1:=hbw1.size
   have hbwa:Below w.heap.size w wa:=(hbw1.drew).trans (hba.mono hz1)
   have hza:=hbwa.size
   have hbw2:Below w.heap.size w w2:=hbwa.trans (hb2.mono hza)
   have hz2:=hbw2.size
   have hg2:=hbl2.le
   have HC:=Lib.hid hca;have HC2:=Lib.hid hc2
   clear hca hc2 hbl1 hba hb2 hb1 z0 z3 z4 z5 c0 c1 c2 c3 c4
   have hkind:=HKI.out
   have q4:=quot_len [36,125,92,47] thn
   have q5:=quot_len [36,125,92,47,58] thn
   have q6:=quot_len [36,125,92,47,58] els
   have q7:=nameOf_length cse
   rcases hkind with hkind | hkind | hkind | hkind | hkind | hkind
   ·subst hkind
    go_wp2_with (first | (go_at_call 64;refine (quoted_any _ _ _ (by omega)).mono ?_;rintro e w3 ⟨rfl,hb3⟩;have hbl3:=hbl2.below hb3;have hz3:=hb3.size) | (go_at_call 65;refine (Name_any _ _).mono ?_;rintro e w3 ⟨rfl,hb3⟩;have hbl3:=hbl2.below hb3;have hz3:=hb3.size) | (go_at_call 18;refine (WriteString_any w.heap.size _ acc _ _ (by first | exact hbl3 | exact hbl2) (by omega) (by first | omega | (simp only [List.length_append,List.length_cons,List.length_nil];omega)) (by omega)).mono ?_))
    first | rintro e w4 rfl hbl4 hfr4 | rintro e w4 ⟨rfl,hbl4,hfr4⟩
    go_wp2_with fail
    go_roundw
    case rel =>
     refine ⟨k+1,acc++showP ⟨0,fn,cse,thn,els⟩,by omega,by go_num,?_,?_,Lib.hid ?_,Lib.hid ?_⟩
     ·have h:=hbl4;simpa [showP,five,four] using h
     ·first | exact (hbw2.trans (hb3.mono hz2)).trans (hfr4.below (by have:=hb3.size;omega) (by simp;omega)) | exact hbw2.trans (hfr4.below hz2 (by simp;omega))
     ·have:=HL.out;have h5:=HPL.out;rw [List.length_append];rw [Nat.succ_mul];omega
     ·rw [Hr.out,List.append_assoc,← HR.out]
    case measure=>simp [intOf];omega
   ·subst hkind
    go_wp2_with (first | (go_at_call 64;refine (quoted_any _ _ _ (by omega)).mono ?_;rintro e w3 ⟨rfl,hb3⟩;have hbl3:=hbl2.below hb3;have hz3:=hb3.size) | (go_at_call 65;refine (Name_any _ _).mono ?_;rintro e w3 ⟨rfl,hb3⟩;have hbl3:=hbl2.below hb3;have hz3:=hb3.size) | (go_at_call 18;refine (WriteString_any w.heap.size _ acc _ _ (by first | exact hbl3 | exact hbl2) (by omega) (by first | omega | (simp only [List.length_append,List.length_cons,List.length_nil];omega)) (by omega)).mono ?_))
    first | rintro e w4 rfl hbl4 hfr4 | rintro e w4 ⟨rfl,hbl4,hfr4⟩
    go_wp2_with fail
    go_roundw
    case rel =>
     refine ⟨k+1,acc++showP ⟨1,fn,cse,thn,els⟩,by omega,by go_num,?_,?_,Lib.hid ?_,Lib.hid ?_⟩
     ·have h:=hbl4;simpa [showP,five,four] using h
     ·first | exact (hbw2.trans (hb3.mono hz2)).trans (hfr4.below (by have:=hb3.size;omega) (by simp;omega)) | exact hbw2.trans (hfr4.below hz2 (by simp;omega))
     ·have:=HL.out;have h5:=HPL.out;rw [List.length_append];rw [Nat.succ_mul];omega
     ·rw [Hr.out,List.append_assoc,← HR.out]
    case measure=>simp [intOf];omega
   ·subst hkind
    go_wp2_with (first | (go_at_call 64;refine (quoted_any _ _ _ (by omega)).mono ?_;rintro e w3 ⟨rfl,hb3⟩;have hbl3:=hbl2.below hb3;have hz3:=hb3.size) | (go_at_call 65;refine (Name_any _ _).mono ?_;rintro e w3 ⟨rfl,hb3⟩;have hbl3:=hbl2.below hb3;have hz3:=hb3.size) | (go_at_call 18;refine (WriteString_any w.heap.size _ acc _ _ (by first | exact hbl3 | exact hbl2) (by omega) (by first | omega | (simp only [List.length_append,List.length_cons,List.length_nil];omega)) (by omega)).mono ?_))
    first | rintro e w4 rfl hbl4 hfr4 | rintro e w4 ⟨rfl,hbl4,hfr4⟩
    go_wp2_with fail
    go_roundw
    case rel =>
     refine ⟨k+1,acc++showP ⟨2,fn,cse,thn,els⟩,by omega,by go_num,?_,?_,Lib.hid ?_,Lib.hid ?_⟩
     ·have h:=hbl4;simpa [showP,five,four] using h
     ·first | exact (hbw2.trans (hb3.mono hz2)).trans (hfr4.below (by have:=hb3.size;omega) (by simp;omega)) | exact hbw2.trans (hfr4.below hz2 (by simp;omega))
     ·have:=HL.out;have h5:=HPL.out;rw [List.length_append];rw [Nat.succ_mul];omega
     ·rw [Hr.out,List.append_assoc,← HR.out]
    case measure=>simp [intOf];omega
   ·subst hkind
    go_wp2_with (first | (go_at_call 64;refine (quoted_any _ _ _ (by omega)).mono ?_;rintro e w3 ⟨rfl,hb3⟩;have hbl3:=hbl2.below hb3;have hz3:=hb3.size) | (go_at_call 65;refine (Name_any _ _).mono ?_;rintro e w3 ⟨rfl,hb3⟩;have hbl3:=hbl2.below hb3;have hz3:=hb3.size) | (go_at_call 18;refine (WriteString_any w.heap.size _ acc _ _ (by first | exact hbl3 | exact hbl2) (by omega) (by first | omega | (simp only [List.length_append,List.length_cons,List.length_nil];omega)) (by omega)).mono ?_))
    first | rintro e w4 rfl hbl4 hfr4 | rintro e w4 ⟨rfl,hbl4,hfr4⟩
    go_wp2_with fail
    go_roundw
    case rel =>
     refine ⟨k+1,acc++showP ⟨3,fn,cse,thn,els⟩,by omega,by go_num,?_,?_,Lib.hid ?_,Lib.hid ?_⟩
     ·have h:=hbl4;simpa [showP,five,four] using h
     ·first | exact (hbw2.trans (hb3.mono hz2)).trans (hfr4.below (by have:=hb3.size;omega) (by simp;omega)) | exact hbw2.trans (hfr4.below hz2 (by simp;omega))
     ·have:=HL.out;have h5:=HPL.out;rw [List.length_append];rw [Nat.succ_mul];omega
     ·rw [Hr.out,List.append_assoc,← HR.out]
    case measure=>simp [intOf];omega
   ·subst hkind
    go_wp2_with (first | (go_at_call 64;refine (quoted_any _ _ _ (by omega)).mono ?_;rintro e w3 ⟨rfl,hb3⟩;have hbl3:=hbl2.below hb3;have hz3:=hb3.size) | (go_at_call 65;refine (Name_any _ _).mono ?_;rintro e w3 ⟨rfl,hb3⟩;have hbl3:=hbl2.below hb3;have hz3:=hb3.size) | (go_at_call 18;refine (WriteString_any w.heap.size _ acc _ _ (by first | exact hbl3 | exact hbl2) (by omega) (by first | omega | (simp only [List.length_append,List.length_cons,List.length_nil];omega)) (by omega)).mono ?_))
    first | rintro e w4 rfl hbl4 hfr4 | rintro e w4 ⟨rfl,hbl4,hfr4⟩
    go_wp2_with fail
    go_roundw
    case rel =>
     refine ⟨k+1,acc++showP ⟨4,fn,cse,thn,els⟩,by omega,by go_num,?_,?_,Lib.hid ?_,Lib.hid ?_⟩
     ·have h:=hbl4;simpa [showP,five,four] using h
     ·first | exact (hbw2.trans (hb3.mono hz2)).trans (hfr4.below (by have:=hb3.size;omega) (by simp;omega)) | exact hbw2.trans (hfr4.below hz2 (by simp;omega))
     ·have:=HL.out;have h5:=HPL.out;rw [List.length_append];rw [Nat.succ_mul];omega
     ·rw [Hr.out,List.append_assoc,← HR.out]
    case measure=>simp [intOf];omega
   ·subst hkind
    go_wp2_with (first | (go_at_call 64;refine (quoted_any _ _ _ (by omega)).mono ?_;rintro e w3 ⟨rfl,hb3⟩;have hbl3:=hbl2.below hb3;have hz3:=hb3.size) | (go_at_call 65;refine (Name_any _ _).mono ?_;rintro e w3 ⟨rfl,hb3⟩;have hbl3:=hbl2.below hb3;have hz3:=hb3.size) | (go_at_call 18;refine (WriteString_any w.heap.size _ acc _ _ (by first | exact hbl3 | exact hbl2) (by omega) (by first | omega | (simp only [List.length_append,List.length_cons,List.length_nil];omega)) (by omega)).mono ?_))
    first | rintro e w4 rfl hbl4 hfr4 | rintro e w4 ⟨rfl,hbl4,hfr4⟩
    go_wp2_with fail
    go_roundw
    case rel =>
     refine ⟨k+1,acc++showP ⟨5,fn,cse,thn,els⟩,by omega,by go_num,?_,?_,Lib.hid ?_,Lib.hid ?_⟩
     ·have h:=hbl4;simpa [showP,five,four] using h
     ·first | exact (hbw2.trans (hb3.mono hz2)).trans (hfr4.below (by have:=hb3.size;omega) (by simp;omega)) | exact hbw2.trans (hfr4.below hz2 (by simp;omega))
     ·have:=HL.out;have h5:=HPL.out;rw [List.length_append];rw [Nat.succ_mul];omega
     ·rw [Hr.out,List.append_assoc,← HR.out]
    case measure=>simp [intOf];omega
end Go.Proofs.YtbmakifbppocaaaGreatDoor
set_option maxRecDepth 100000
namespace Go.Proofs.YtbmakifbppocaaaGreatDoor
open Go.RowKit
set_option maxHeartbeats 1000000 in
theorem XMay_any (S:Nat→Prop) (f:Tf) (hsm:f.small) (fc:List Value) (w:World) (hv:TfV w S fc f) :
  Calls Tryz.prog 44 #[.agg fc.toArray] w fun e w'=>e=.returned (.bool (tfMay f))∧Below w.heap.size w w':=by
 obtain ⟨rk,rch,rng,rrs,rlo,rhi,rlz,rks,ra,rcp,rka,rkc,fa,fcp,hc⟩:=hv.open_
 obtain ⟨X,fs,fd,al⟩:=f
 obtain ⟨hx,hp,hfs⟩:=hsm
 have hx1:X=.mk rk rch rng rrs rlo rhi rlz rks:=hc.rx
 have hfce:fc=[.int .i64 rk,.string ⟨(rch).toArray⟩,.bool rng,.slice ra rrs.length rcp,.int .i64 rlo,.int .i64 rhi,.bool rlz,.slice rka rks.length rkc,.slice fa fs.length fcp,.bool fd,.bool al]:=hc.eq
 obtain ⟨W0,hW0⟩:∃ W0,W0=w.alloc (.cells fc.toArray 35):=⟨_,rfl⟩
 have hb0:Below w.heap.size w W0:=by rw [hW0];exact (Below.refl _ _).alloc (Nat.le_refl _) _
 have HB1:Hid (W0.heap[w.heap.size]?=some (.cells fc.toArray 35 (0,0))):=Lib.hid (by rw [hW0];exact heap_alloc_new w _)
 have HXV:Hid (RxV W0 S [.int .i64 rk,.string ⟨(rch).toArray⟩,.bool rng,.slice ra rrs.length rcp,.int .i64 rlo,.int .i64 rhi,.bool rlz,.slice rka rks.length rkc] X):=Lib.hid (hx1 ▸ hc.rv.later hb0)
 have HFS:Hid (SlS W0 S fa 5 fs.length (fcells fs)):=Lib.hid (hc.fv.keep (Kept.all hb0))
 have HXS:=Lib.hid hx
 have HP:=Lib.hid hp
 have HFL:=Lib.hid hfs
 have HTM:Hid (tfMay ⟨X,fs,fd,al⟩=(mayB X && mayFs fs)):=Lib.hid rfl
 subst hfce
 have HW0:=Lib.hid hW0
 rw [HTM.out]
 clear hv hc hx hx1 hW0 hfs hp HTM
 have HRM:=Lib.hid (RxMay_any S X _ W0 HP.out HXS.out HXV.out)
 cases hm:mayB X with
 | false =>
  rw [hm] at HRM
  clear hm
  go_enter Tryz.func44,Tryz.ntmps44
  go_upto_region 1 with fail
  rw [← HW0.out]
  clear HW0
  go_wp2_with (first
   | (refine wpList_ldW rfl 32 (.tmp 3) rfl w.heap.size 0 rfl [.int .i64 rk,.string ⟨(rch).toArray⟩,.bool rng,.slice ra rrs.length rcp,.int .i64 rlo,.int .i64 rhi,.bool rlz,.slice rka rks.length rkc] _ (range_blk (ds:=[.slice fa fs.length fcp,.bool fd,.bool al]) HB1.out) rx_under rfl (by rw [rx_size];rfl) ?_)
   | (go_at_call 61;refine HRM.out.mono ?_))
  first | rintro e w1 rfl hb1 | rintro e w1 ⟨rfl,hb1⟩
  go_wp2
  go_ret
  exact ⟨rfl,bel2 hb0 hb1⟩
 | true =>
  rw [hm] at HRM
  clear hm
  go_enter Tryz.func44,Tryz.ntmps44
  go_upto_region 1 with fail
  rw [← HW0.out]
  clear HW0
  go_wp2_with (first
   | (refine wpList_ldW rfl 32 (.tmp 3) rfl w.heap.size 0 rfl [.int .i64 rk,.string ⟨(rch).toArray⟩,.bool rng,.slice ra rrs.length rcp,.int .i64 rlo,.int .i64 rhi,.bool rlz,.slice rka rks.length rkc] _ (range_blk (ds:=[.slice fa fs.length fcp,.bool fd,.bool al]) HB1.out) rx_under rfl (by rw [rx_size];rfl) ?_)
   | (go_at_call 61;refine HRM.out.mono ?_))
  first | rintro e w1 rfl hb1 | rintro e w1 ⟨rfl,hb1⟩
  have hx1:=(hb1.block _ (heap_lt HB1.out)).trans HB1.out
  have z8:=blk_cell hx1 8 rfl
  have HM:=Lib.hid (May_any fa fs.length fcp fs w1 (HFS.out.keep (Kept.all hb1)).sl HFL.out)
  clear hx1
  go_wp2_with (go_at_call 62;refine HM.out.mono ?_)
  first | rintro e w2 rfl hb2 | rintro e w2 ⟨rfl,hb2⟩
  go_wp2
  go_ret
  exact ⟨by simp,bel2 (bel2 hb0 hb1) hb2⟩
end Go.Proofs.YtbmakifbppocaaaGreatDoor
set_option maxRecDepth 100000
namespace Go.Proofs.YtbmakifbppocaaaGreatDoor
open Go.RowKit
set_option maxHeartbeats 2000000 in
theorem Nothing_any (S:Nat→Prop) (k:Int) (t:Str) (n:Int) (h u:Bool) (f:Tf) (hf:f.small) (o:List Str) (ks:List Sn) (cc:List Value) (w:World) (hv:SnV w S cc (.mk k t n h u f o ks)) :
  Calls Tryz.prog 38 #[.agg cc.toArray] w fun e w'=>e=.returned (.bool (!h && (!u && (ks.isEmpty && tfZ f))))∧Below w.heap.size w w':=by
 obtain ⟨W0,hW0⟩:∃ W0,W0=w.alloc (.cells cc.toArray 38):=⟨_,rfl⟩
 have hb0:Below w.heap.size w W0:=by rw [hW0];exact (Below.refl _ _).alloc (Nat.le_refl _) _
 have HB1:Hid (W0.heap[w.heap.size]?=some (.cells cc.toArray 38 (0,0))):=Lib.hid (by rw [hW0];exact heap_alloc_new w _)
 have HW0:=Lib.hid hW0
 have hcl:=hv.len
 have HV0:=Lib.hid (hv.later hb0)
 obtain ⟨fc,oa,oc,ka,kc,A⟩:=hv.at_
 obtain ⟨k0,k1,k2,k3,k4,k16,k17,kr⟩:=A.box HB1.out
 have HFC:=Lib.hid A.fl
 have HFV:=Lib.hid (A.fv.keep (Kept.all hb0))
 clear hW0 A hv
 have HXE:=Lib.hid (XSameZ_any S f hf fc W0 HFV.out)
 clear hf HFV
 cases h with
 | true =>
  rw [show (!true && (!u && (ks.isEmpty && tfZ f)))=false from rfl]
  go_enter Tryz.func38,Tryz.ntmps38
  go_upto_region 1 with fail
  rw [← HW0.out]
  clear HW0
  go_wp2
  go_ret
  exact ⟨rfl,hb0⟩
 | false =>
  cases u with
  | true =>
   rw [show (!false && (!true && (ks.isEmpty && tfZ f)))=false from rfl]
   go_enter Tryz.func38,Tryz.ntmps38
   go_upto_region 1 with fail
   rw [← HW0.out]
   clear HW0
   go_wp2
   go_ret
   exact ⟨rfl,hb0⟩
  | false =>
   cases ks with
   | cons y ys =>
    rw [show (!false && (!false && ((y :: ys).isEmpty && tfZ f)))=false from rfl]
    obtain ⟨m,hm⟩:∃ m,(y :: ys).length=m:=⟨_,rfl⟩
    rw [hm] at k17
    have gm:((m:Int) == 0)=false:=by rw [beq_eq_false_iff_ne,← hm];simp;omega
    clear hm HV0
    go_enter Tryz.func38,Tryz.ntmps38
    go_upto_region 1 with fail
    rw [← HW0.out]
    clear HW0
    go_wp2
    go_ret
    exact ⟨rfl,hb0⟩
   | nil =>
    rw [show (!false && (!false && (([]:List Sn).isEmpty && tfZ f)))=tfZ f from rfl]
    go_enter Tryz.func38,Tryz.ntmps38
    go_upto_region 1 with fail
    rw [← HW0.out]
    clear HW0
    go_wp2_with (first
     | (refine wpList_ldG (by rfl) 35 (.tmp 18) rfl w.heap.size 5 rfl fc _ kr form_under rfl (by rw [form_size,HFC.out]) ?_)
     | (refine wpList_ldG (by rfl) 38 (.tmp 1) rfl w.heap.size 0 rfl cc _ (range_blk (ds:=[]) (by simpa using HB1.out)) snip_under rfl (by rw [snip_size,hcl]) ?_)
     | (refine wpList_ldW rfl 38 (.tmp 1) rfl w.heap.size 0 rfl cc _ (range_blk (ds:=[]) (by simpa using HB1.out)) snip_under rfl (by rw [snip_size,hcl]) ?_)
     | (go_at_call 54;refine HXE.out.mono ?_))
    first | rintro e w1 rfl hb1 | rintro e w1 ⟨rfl,hb1⟩
    go_wp2
    go_ret
    exact ⟨rfl,bel2 hb0 hb1⟩
set_option maxHeartbeats 2000000 in
theorem Besides_any (S:Nat→Prop) (k:Int) (t:Str) (n:Int) (h u:Bool) (f:Tf) (hf:f.small) (o:List Str) (ks:List Sn) (cc:List Value) (w:World) (hv:SnV w S cc (.mk k t n h u f o ks)) :
  Calls Tryz.prog 39 #[.agg cc.toArray] w fun e w'=>e=.returned (.bool (besidesS (.mk k t n h u f o ks)))∧Below w.heap.size w w':=by
 obtain ⟨W0,hW0⟩:∃ W0,W0=w.alloc (.cells cc.toArray 38):=⟨_,rfl⟩
 have hb0:Below w.heap.size w W0:=by rw [hW0];exact (Below.refl _ _).alloc (Nat.le_refl _) _
 have HB1:Hid (W0.heap[w.heap.size]?=some (.cells cc.toArray 38 (0,0))):=Lib.hid (by rw [hW0];exact heap_alloc_new w _)
 have HW0:=Lib.hid hW0
 have hcl:=hv.len
 have HV0:=Lib.hid (hv.later hb0)
 obtain ⟨fc,oa,oc,ka,kc,A⟩:=hv.at_
 obtain ⟨k0,k1,k2,k3,k4,k16,k17,kr⟩:=A.box HB1.out
 have HFC:=Lib.hid A.fl
 have HFV:=Lib.hid (A.fv.keep (Kept.all hb0))
 clear hW0 A hv
 have HXE:=Lib.hid (XSameZ_any S f hf fc W0 HFV.out)
 have HXM:=Lib.hid (XMay_any S f hf fc W0 HFV.out)
 have HNO:=Lib.hid (Nothing_any S k t n h u f hf o ks cc W0 HV0.out)
 clear hf HFV HV0
 cases h with
 | true =>
  cases u with
  | true =>
   rw [show besidesS (.mk k t n true true f o ks)=false from rfl]
   go_enter Tryz.func39,Tryz.ntmps39
   go_upto_region 1 with fail
   rw [← HW0.out]
   clear HW0
   go_wp2
   go_ret
   exact ⟨rfl,hb0⟩
  | false =>
   rw [show besidesS (.mk k t n true false f o ks)=tfZ f from rfl]
   go_enter Tryz.func39,Tryz.ntmps39
   go_upto_region 1 with fail
   rw [← HW0.out]
   clear HW0
   go_wp2_with (first
    | (refine wpList_ldW rfl 35 (.tmp 13) rfl w.heap.size 5 rfl fc _ kr form_under rfl (by rw [form_size,HFC.out]) ?_)
    | (refine wpList_ldG (by rfl) 38 (.tmp 1) rfl w.heap.size 0 rfl cc _ (range_blk (ds:=[]) (by simpa using HB1.out)) snip_under rfl (by rw [snip_size,hcl]) ?_)
    | (refine wpList_ldW rfl 38 (.tmp 1) rfl w.heap.size 0 rfl cc _ (range_blk (ds:=[]) (by simpa using HB1.out)) snip_under rfl (by rw [snip_size,hcl]) ?_)
    | (go_at_call 54;refine HXE.out.mono ?_))
   first | rintro e w1 rfl hb1 | rintro e w1 ⟨rfl,hb1⟩
   go_wp2
   go_ret
   exact ⟨rfl,bel2 hb0 hb1⟩
 | false =>
  cases u with
  | true =>
   cases ks with
   | cons y ys =>
    rw [show besidesS (.mk k t n false true f o (y :: ys))=false from rfl]
    obtain ⟨m,hm⟩:∃ m,(y :: ys).length=m:=⟨_,rfl⟩
    rw [hm] at k17
    have gm:((m:Int) == 0)=false:=by rw [beq_eq_false_iff_ne,← hm];simp;omega
    clear hm HNO
    go_enter Tryz.func39,Tryz.ntmps39
    go_upto_region 1 with fail
    rw [← HW0.out]
    clear HW0
    go_wp2
    go_ret
    exact ⟨rfl,hb0⟩
   | nil =>
    rw [show besidesS (.mk k t n false true f o [])=tfMay f from rfl]
    go_enter Tryz.func39,Tryz.ntmps39
    go_upto_region 1 with fail
    rw [← HW0.out]
    clear HW0
    go_wp2_with (first
     | (refine wpList_ldG (by rfl) 35 (.tmp 25) rfl w.heap.size 5 rfl fc _ kr form_under rfl (by rw [form_size,HFC.out]) ?_)
     | (refine wpList_ldG (by rfl) 38 (.tmp 1) rfl w.heap.size 0 rfl cc _ (range_blk (ds:=[]) (by simpa using HB1.out)) snip_under rfl (by rw [snip_size,hcl]) ?_)
     | (refine wpList_ldW rfl 38 (.tmp 1) rfl w.heap.size 0 rfl cc _ (range_blk (ds:=[]) (by simpa using HB1.out)) snip_under rfl (by rw [snip_size,hcl]) ?_)
     | (go_at_call 44;refine HXM.out.mono ?_))
    first | rintro e w1 rfl hb1 | rintro e w1 ⟨rfl,hb1⟩
    go_wp2
    go_ret
    exact ⟨rfl,bel2 hb0 hb1⟩
  | false =>
   rw [show besidesS (.mk k t n false false f o ks)=(!false && (!false && (ks.isEmpty && tfZ f))) from rfl]
   go_enter Tryz.func39,Tryz.ntmps39
   go_upto_region 1 with fail
   rw [← HW0.out]
   clear HW0
   go_wp2_with (first
    | (fail)
    | (refine wpList_ldG (by rfl) 38 (.tmp 1) rfl w.heap.size 0 rfl cc _ (range_blk (ds:=[]) (by simpa using HB1.out)) snip_under rfl (by rw [snip_size,hcl]) ?_)
    | (refine wpList_ldW rfl 38 (.tmp 1) rfl w.heap.size 0 rfl cc _ (range_blk (ds:=[]) (by simpa using HB1.out)) snip_under rfl (by rw [snip_size,hcl]) ?_)
    | (go_at_call 38;refine HNO.out.mono ?_))
   first | rintro e w1 rfl hb1 | rintro e w1 ⟨rfl,hb1⟩
   go_wp2
   go_ret
   exact ⟨rfl,bel2 hb0 hb1⟩
end Go.Proofs.YtbmakifbppocaaaGreatDoor
set_option maxRecDepth 100000
namespace Go.Proofs.YtbmakifbppocaaaGreatDoor
open Go.RowKit
set_option maxHeartbeats 4000000 in
theorem Fld0_any (S:Nat→Prop) (t:Str) (n:Int) (h u:Bool) (f:Tf) (hf:f.small) (o:List Str) (ks:List Sn) (cc:List Value) (w:World) (hv:SnV w S cc (.mk 0 t n h u f o ks)) :
  Calls Tryz.prog 27 #[.agg cc.toArray] w fun e w'=>e=.returned (.bool (!t.isEmpty && (decide (n=0) && (o.isEmpty && (!h && (!u && (ks.isEmpty && tfZ f)))))))∧Below w.heap.size w w':=by
 obtain ⟨nb,hnb⟩:∃ nb,decide (0≤n∧n≤9999)=nb:=⟨_,rfl⟩
 have HNB:=Lib.hid hnb
 clear hnb
 obtain ⟨W0,hW0⟩:∃ W0,W0=w.alloc (.cells cc.toArray 38):=⟨_,rfl⟩
 have hb0:Below w.heap.size w W0:=by rw [hW0];exact (Below.refl _ _).alloc (Nat.le_refl _) _
 have HB1:Hid (W0.heap[w.heap.size]?=some (.cells cc.toArray 38 (0,0))):=Lib.hid (by rw [hW0];exact heap_alloc_new w _)
 have HW0:=Lib.hid hW0
 have hcl:=hv.len
 have HV0:=Lib.hid (hv.later hb0)
 obtain ⟨fc,oa,oc,ka,kc,A⟩:=hv.at_
 obtain ⟨k0,k1,k2,k3,k4,k16,k17,kr⟩:=A.box HB1.out
 clear hW0 A hv kr
 have HNO:=Lib.hid (Nothing_any S 0 t n h u f hf o ks cc W0 HV0.out)
 clear HV0 hf
 by_cases ht:t=[]
 ·subst ht
  rw [show (!([]:Str).isEmpty && (decide (n=0) && (o.isEmpty && (!h && (!u && (ks.isEmpty && tfZ f))))))=false from rfl]
  clear HNO
  go_enter Tryz.func27,Tryz.ntmps27
  go_upto_region 1 with fail
  rw [← HW0.out]
  clear HW0
  go_cut [3] from 4 to 11 (fun c wx=>c=.bool nb∧wx=W0)
  case first =>
   by_cases q0:0≤n
   ·have Q0:=Lib.hid q0
    have g0:decide (0≤n)=true:=decide_eq_true q0
    by_cases q9:n≤9999
    ·have Q9:=Lib.hid q9
     have g9:decide (n≤9999)=true:=decide_eq_true q9
     clear q9
     go_wp2_with fail
     go_meet
     exact ⟨congrArg Value.bool (HNB.out.symm.trans (decide_eq_true ⟨Q0.out,Q9.out⟩)).symm,rfl⟩
    ·have Q9:=Lib.hid q9
     have g9:decide (n≤9999)=false:=decide_eq_false q9
     clear q9
     go_wp2_with fail
     go_meet
     exact ⟨congrArg Value.bool (HNB.out.symm.trans (decide_eq_false (fun h=>by have h1:=Q9.out;have h2:=h.2;omega))).symm,rfl⟩
   ·have Q0:=Lib.hid q0
    have g0:decide (0≤n)=false:=decide_eq_false q0
    clear q0
    go_wp2_with fail
    go_meet
    exact ⟨congrArg Value.bool (HNB.out.symm.trans (decide_eq_false (fun h=>by have h1:=Q0.out;have h2:=h.1;omega))).symm,rfl⟩
  case rest =>
   obtain ⟨rfl,hwc⟩:=hcut
   replace hwc:=hwc.symm
   subst hwc
   go_wp2
   go_ret
   exact ⟨rfl,hb0⟩
 ·have e1:(!t.isEmpty)=true:=by simpa using ht
  rw [e1,Bool.true_and]
  have hne:(⟨t.toArray⟩:ByteArray)≠⟨#[]⟩:=fun e=>ht (by simpa using e)
  have hq1:(t == ([]:Str))=false:=by simpa using ht
  have hq2:(t != ([]:Str))=true:=by simp [bne,hq1]
  have hq3:decide (t=([]:Str))=false:=decide_eq_false ht
  clear ht e1
  by_cases hn:n=0
  ·rw [decide_eq_true hn,Bool.true_and]
   have gn:(n == 0)=true:=by rw [beq_iff_eq];exact hn
   cases o with
   | cons a o' =>
    rw [show ((a :: o').isEmpty && (!h && (!u && (ks.isEmpty && tfZ f))))=false from rfl]
    obtain ⟨on,hon⟩:∃ on,(a :: o').length=on:=⟨_,rfl⟩
    rw [hon] at k16
    have hop:0 < on:=by rw [← hon];simp
    have go1:((on:Int) == 0)=false:=by rw [beq_eq_false_iff_ne];omega
    clear hon HNO hn
    go_enter Tryz.func27,Tryz.ntmps27
    go_upto_region 1 with fail
    rw [← HW0.out]
    clear HW0
    go_cut [3] from 4 to 11 (fun c wx=>c=.bool nb∧wx=W0)
    case first =>
     by_cases q0:0≤n
     ·have Q0:=Lib.hid q0
      have g0:decide (0≤n)=true:=decide_eq_true q0
      by_cases q9:n≤9999
      ·have Q9:=Lib.hid q9
       have g9:decide (n≤9999)=true:=decide_eq_true q9
       clear q9
       go_wp2_with fail
       go_meet
       exact ⟨congrArg Value.bool (HNB.out.symm.trans (decide_eq_true ⟨Q0.out,Q9.out⟩)).symm,rfl⟩
      ·have Q9:=Lib.hid q9
       have g9:decide (n≤9999)=false:=decide_eq_false q9
       clear q9
       go_wp2_with fail
       go_meet
       exact ⟨congrArg Value.bool (HNB.out.symm.trans (decide_eq_false (fun h=>by have h1:=Q9.out;have h2:=h.2;omega))).symm,rfl⟩
     ·have Q0:=Lib.hid q0
      have g0:decide (0≤n)=false:=decide_eq_false q0
      clear q0
      go_wp2_with fail
      go_meet
      exact ⟨congrArg Value.bool (HNB.out.symm.trans (decide_eq_false (fun h=>by have h1:=Q0.out;have h2:=h.1;omega))).symm,rfl⟩
    case rest =>
     obtain ⟨rfl,hwc⟩:=hcut
     replace hwc:=hwc.symm
     subst hwc
     go_wp2
     go_ret
     exact ⟨rfl,hb0⟩
   | nil =>
    rw [show (([]:List Str).isEmpty && (!h && (!u && (ks.isEmpty && tfZ f))))=(!h && (!u && (ks.isEmpty && tfZ f))) from rfl]
    clear hn
    go_enter Tryz.func27,Tryz.ntmps27
    go_upto_region 1 with fail
    rw [← HW0.out]
    clear HW0
    go_cut [3] from 4 to 11 (fun c wx=>c=.bool nb∧wx=W0)
    case first =>
     by_cases q0:0≤n
     ·have Q0:=Lib.hid q0
      have g0:decide (0≤n)=true:=decide_eq_true q0
      by_cases q9:n≤9999
      ·have Q9:=Lib.hid q9
       have g9:decide (n≤9999)=true:=decide_eq_true q9
       clear q9
       go_wp2_with fail
       go_meet
       exact ⟨congrArg Value.bool (HNB.out.symm.trans (decide_eq_true ⟨Q0.out,Q9.out⟩)).symm,rfl⟩
      ·have Q9:=Lib.hid q9
       have g9:decide (n≤9999)=false:=decide_eq_false q9
       clear q9
       go_wp2_with fail
       go_meet
       exact ⟨congrArg Value.bool (HNB.out.symm.trans (decide_eq_false (fun h=>by have h1:=Q9.out;have h2:=h.2;omega))).symm,rfl⟩
     ·have Q0:=Lib.hid q0
      have g0:decide (0≤n)=false:=decide_eq_false q0
      clear q0
      go_wp2_with fail
      go_meet
      exact ⟨congrArg Value.bool (HNB.out.symm.trans (decide_eq_false (fun h=>by have h1:=Q0.out;have h2:=h.1;omega))).symm,rfl⟩
    case rest =>
     obtain ⟨rfl,hwc⟩:=hcut
     replace hwc:=hwc.symm
     subst hwc
     go_wp2_with (first
      | (refine wpList_ldG (by rfl) 38 (.tmp 1) rfl w.heap.size 0 rfl cc _ (range_blk (ds:=[]) (by simpa using HB1.out)) snip_under rfl (by rw [snip_size,hcl]) ?_)
      | (go_at_call 38;refine HNO.out.mono ?_))
     first | rintro e w1 rfl hb1 | rintro e w1 ⟨rfl,hb1⟩
     go_wp2
     go_ret
     exact ⟨rfl,bel2 hb0 hb1⟩
  ·rw [decide_eq_false hn,Bool.false_and]
   have gn:(n == 0)=false:=by rw [beq_eq_false_iff_ne];exact hn
   clear hn HNO
   go_enter Tryz.func27,Tryz.ntmps27
   go_upto_region 1 with fail
   rw [← HW0.out]
   clear HW0
   go_cut [3] from 4 to 11 (fun c wx=>c=.bool nb∧wx=W0)
   case first =>
    by_cases q0:0≤n
    ·have Q0:=Lib.hid q0
     have g0:decide (0≤n)=true:=decide_eq_true q0
     by_cases q9:n≤9999
     ·have Q9:=Lib.hid q9
      have g9:decide (n≤9999)=true:=decide_eq_true q9
      clear q9
      go_wp2_with fail
      go_meet
      exact ⟨congrArg Value.bool (HNB.out.symm.trans (decide_eq_true ⟨Q0.out,Q9.out⟩)).symm,rfl⟩
     ·have Q9:=Lib.hid q9
      have g9:decide (n≤9999)=false:=decide_eq_false q9
      clear q9
      go_wp2_with fail
      go_meet
      exact ⟨congrArg Value.bool (HNB.out.symm.trans (decide_eq_false (fun h=>by have h1:=Q9.out;have h2:=h.2;omega))).symm,rfl⟩
    ·have Q0:=Lib.hid q0
     have g0:decide (0≤n)=false:=decide_eq_false q0
     clear q0
     go_wp2_with fail
     go_meet
     exact ⟨congrArg Value.bool (HNB.out.symm.trans (decide_eq_false (fun h=>by have h1:=Q0.out;have h2:=h.1;omega))).symm,rfl⟩
   case rest =>
    obtain ⟨rfl,hwc⟩:=hcut
    replace hwc:=hwc.symm
    subst hwc
    go_wp2
    go_ret
    exact ⟨rfl,hb0⟩
set_option maxHeartbeats 4000000 in
theorem Fld1_any (S:Nat→Prop) (t:Str) (n:Int) (h u:Bool) (f:Tf) (hf:f.small) (o:List Str) (ks:List Sn) (cc:List Value) (w:World) (hv:SnV w S cc (.mk 1 t n h u f o ks)) :
  Calls Tryz.prog 27 #[.agg cc.toArray] w fun e w'=>e=.returned (.bool (t.isEmpty && (decide (0≤n∧n≤9999) && (o.isEmpty && besidesS (.mk 1 t n h u f o ks)))))∧Below w.heap.size w w':=by
 obtain ⟨nb,hnb⟩:∃ nb,decide (0≤n∧n≤9999)=nb:=⟨_,rfl⟩
 have HNB:=Lib.hid hnb
 rw [hnb]
 clear hnb
 obtain ⟨W0,hW0⟩:∃ W0,W0=w.alloc (.cells cc.toArray 38):=⟨_,rfl⟩
 have hb0:Below w.heap.size w W0:=by rw [hW0];exact (Below.refl _ _).alloc (Nat.le_refl _) _
 have HB1:Hid (W0.heap[w.heap.size]?=some (.cells cc.toArray 38 (0,0))):=Lib.hid (by rw [hW0];exact heap_alloc_new w _)
 have HW0:=Lib.hid hW0
 have hcl:=hv.len
 have HV0:=Lib.hid (hv.later hb0)
 obtain ⟨fc,oa,oc,ka,kc,A⟩:=hv.at_
 obtain ⟨k0,k1,k2,k3,k4,k16,k17,kr⟩:=A.box HB1.out
 clear hW0 A hv kr
 have HNO:=Lib.hid (Besides_any S 1 t n h u f hf o ks cc W0 HV0.out)
 obtain ⟨bs,hbs⟩:∃ bs,besidesS (.mk 1 t n h u f o ks)=bs:=⟨_,rfl⟩
 rw [hbs] at HNO ⊢
 clear HV0 hf hbs
 by_cases ht:t=[]
 ·subst ht
  rw [show (([]:Str).isEmpty && (nb && (o.isEmpty && bs)))=(nb && (o.isEmpty && bs)) from rfl]
  cases nb with
  | false =>
   rw [Bool.false_and]
   clear HNO
   go_enter Tryz.func27,Tryz.ntmps27
   go_upto_region 1 with fail
   rw [← HW0.out]
   clear HW0
   go_cut [3] from 4 to 11 (fun c wx=>c=.bool false∧wx=W0)
   case first =>
    by_cases q0:0≤n
    ·have Q0:=Lib.hid q0
     have g0:decide (0≤n)=true:=decide_eq_true q0
     by_cases q9:n≤9999
     ·have Q9:=Lib.hid q9
      have g9:decide (n≤9999)=true:=decide_eq_true q9
      clear q9
      go_wp2_with fail
      go_meet
      exact ⟨congrArg Value.bool (HNB.out.symm.trans (decide_eq_true ⟨Q0.out,Q9.out⟩)).symm,rfl⟩
     ·have Q9:=Lib.hid q9
      have g9:decide (n≤9999)=false:=decide_eq_false q9
      clear q9
      go_wp2_with fail
      go_meet
      exact ⟨congrArg Value.bool (HNB.out.symm.trans (decide_eq_false (fun h=>by have h1:=Q9.out;have h2:=h.2;omega))).symm,rfl⟩
    ·have Q0:=Lib.hid q0
     have g0:decide (0≤n)=false:=decide_eq_false q0
     clear q0
     go_wp2_with fail
     go_meet
     exact ⟨congrArg Value.bool (HNB.out.symm.trans (decide_eq_false (fun h=>by have h1:=Q0.out;have h2:=h.1;omega))).symm,rfl⟩
   case rest =>
    obtain ⟨rfl,hwc⟩:=hcut
    replace hwc:=hwc.symm
    subst hwc
    go_wp2
    go_ret
    exact ⟨rfl,hb0⟩
  | true =>
   rw [Bool.true_and]
   cases o with
   | cons a o' =>
    rw [show ((a :: o').isEmpty && bs)=false from rfl]
    obtain ⟨on,hon⟩:∃ on,(a :: o').length=on:=⟨_,rfl⟩
    rw [hon] at k16
    have hop:0 < on:=by rw [← hon];simp
    have go1:((on:Int) == 0)=false:=by rw [beq_eq_false_iff_ne];omega
    clear hon HNO
    go_enter Tryz.func27,Tryz.ntmps27
    go_upto_region 1 with fail
    rw [← HW0.out]
    clear HW0
    go_cut [3] from 4 to 11 (fun c wx=>c=.bool true∧wx=W0)
    case first =>
     by_cases q0:0≤n
     ·have Q0:=Lib.hid q0
      have g0:decide (0≤n)=true:=decide_eq_true q0
      by_cases q9:n≤9999
      ·have Q9:=Lib.hid q9
       have g9:decide (n≤9999)=true:=decide_eq_true q9
       clear q9
       go_wp2_with fail
       go_meet
       exact ⟨congrArg Value.bool (HNB.out.symm.trans (decide_eq_true ⟨Q0.out,Q9.out⟩)).symm,rfl⟩
      ·have Q9:=Lib.hid q9
       have g9:decide (n≤9999)=false:=decide_eq_false q9
       clear q9
       go_wp2_with fail
       go_meet
       exact ⟨congrArg Value.bool (HNB.out.symm.trans (decide_eq_false (fun h=>by have h1:=Q9.out;have h2:=h.2;omega))).symm,rfl⟩
     ·have Q0:=Lib.hid q0
      have g0:decide (0≤n)=false:=decide_eq_false q0
      clear q0
      go_wp2_with fail
      go_meet
      exact ⟨congrArg Value.bool (HNB.out.symm.trans (decide_eq_false (fun h=>by have h1:=Q0.out;have h2:=h.1;omega))).symm,rfl⟩
    case rest =>
     obtain ⟨rfl,hwc⟩:=hcut
     replace hwc:=hwc.symm
     subst hwc
     go_wp2
     go_ret
     exact ⟨rfl,hb0⟩
   | nil =>
    rw [show (([]:List Str).isEmpty && bs)=bs from rfl]
    go_enter Tryz.func27,Tryz.ntmps27
    go_upto_region 1 with fail
    rw [← HW0.out]
    clear HW0
    go_cut [3] from 4 to 11 (fun c wx=>c=.bool true∧wx=W0)
    case first =>
     by_cases q0:0≤n
     ·have Q0:=Lib.hid q0
      have g0:decide (0≤n)=true:=decide_eq_true q0
      by_cases q9:n≤9999
      ·have Q9:=Lib.hid q9
       have g9:decide (n≤9999)=true:=decide_eq_true q9
       clear q9
       go_wp2_with fail
       go_meet
       exact ⟨congrArg Value.bool (HNB.out.symm.trans (decide_eq_true ⟨Q0.out,Q9.out⟩)).symm,rfl⟩
      ·have Q9:=Lib.hid q9
       have g9:decide (n≤9999)=false:=decide_eq_false q9
       clear q9
       go_wp2_with fail
       go_meet
       exact ⟨congrArg Value.bool (HNB.out.symm.trans (decide_eq_false (fun h=>by have h1:=Q9.out;have h2:=h.2;omega))).symm,rfl⟩
     ·have Q0:=Lib.hid q0
      have g0:decide (0≤n)=false:=decide_eq_false q0
      clear q0
      go_wp2_with fail
      go_meet
      exact ⟨congrArg Value.bool (HNB.out.symm.trans (decide_eq_false (fun h=>by have h1:=Q0.out;have h2:=h.1;omega))).symm,rfl⟩
    case rest =>
     obtain ⟨rfl,hwc⟩:=hcut
     replace hwc:=hwc.symm
     subst hwc
     go_wp2_with (first
      | (refine wpList_ldG (by rfl) 38 (.tmp 1) rfl w.heap.size 0 rfl cc _ (range_blk (ds:=[]) (by simpa using HB1.out)) snip_under rfl (by rw [snip_size,hcl]) ?_)
      | (go_at_call 39;refine HNO.out.mono ?_))
     first | rintro e w1 rfl hb1 | rintro e w1 ⟨rfl,hb1⟩
     go_wp2
     go_ret
     exact ⟨rfl,bel2 hb0 hb1⟩
 ·have e1:t.isEmpty=false:=by simpa using ht
  rw [e1,Bool.false_and]
  have hne:(⟨t.toArray⟩:ByteArray)≠⟨#[]⟩:=fun e=>ht (by simpa using e)
  have hq1:(t == ([]:Str))=false:=by simpa using ht
  have hq2:(t != ([]:Str))=true:=by simp [bne,hq1]
  have hq3:decide (t=([]:Str))=false:=decide_eq_false ht
  clear ht e1 HNO
  go_enter Tryz.func27,Tryz.ntmps27
  go_upto_region 1 with fail
  rw [← HW0.out]
  clear HW0
  go_cut [3] from 4 to 11 (fun c wx=>c=.bool nb∧wx=W0)
  case first =>
   by_cases q0:0≤n
   ·have Q0:=Lib.hid q0
    have g0:decide (0≤n)=true:=decide_eq_true q0
    by_cases q9:n≤9999
    ·have Q9:=Lib.hid q9
     have g9:decide (n≤9999)=true:=decide_eq_true q9
     clear q9
     go_wp2_with fail
     go_meet
     exact ⟨congrArg Value.bool (HNB.out.symm.trans (decide_eq_true ⟨Q0.out,Q9.out⟩)).symm,rfl⟩
    ·have Q9:=Lib.hid q9
     have g9:decide (n≤9999)=false:=decide_eq_false q9
     clear q9
     go_wp2_with fail
     go_meet
     exact ⟨congrArg Value.bool (HNB.out.symm.trans (decide_eq_false (fun h=>by have h1:=Q9.out;have h2:=h.2;omega))).symm,rfl⟩
   ·have Q0:=Lib.hid q0
    have g0:decide (0≤n)=false:=decide_eq_false q0
    clear q0
    go_wp2_with fail
    go_meet
    exact ⟨congrArg Value.bool (HNB.out.symm.trans (decide_eq_false (fun h=>by have h1:=Q0.out;have h2:=h.1;omega))).symm,rfl⟩
  case rest =>
   obtain ⟨rfl,hwc⟩:=hcut
   replace hwc:=hwc.symm
   subst hwc
   go_wp2
   go_ret
   exact ⟨rfl,hb0⟩
set_option maxHeartbeats 4000000 in
theorem Fld2_any (S:Nat→Prop) (t:Str) (n:Int) (h u:Bool) (f:Tf) (hf:f.small) (o:List Str) (ks:List Sn) (cc:List Value) (w:World) (hv:SnV w S cc (.mk 2 t n h u f o ks)) :
  Calls Tryz.prog 27 #[.agg cc.toArray] w fun e w'=>e=.returned (.bool (t.isEmpty && (decide (0≤n∧n≤9999) && (!o.isEmpty && (!h && (!u && (ks.isEmpty && tfZ f)))))))∧Below w.heap.size w w':=by
 obtain ⟨nb,hnb⟩:∃ nb,decide (0≤n∧n≤9999)=nb:=⟨_,rfl⟩
 have HNB:=Lib.hid hnb
 rw [hnb]
 clear hnb
 obtain ⟨W0,hW0⟩:∃ W0,W0=w.alloc (.cells cc.toArray 38):=⟨_,rfl⟩
 have hb0:Below w.heap.size w W0:=by rw [hW0];exact (Below.refl _ _).alloc (Nat.le_refl _) _
 have HB1:Hid (W0.heap[w.heap.size]?=some (.cells cc.toArray 38 (0,0))):=Lib.hid (by rw [hW0];exact heap_alloc_new w _)
 have HW0:=Lib.hid hW0
 have hcl:=hv.len
 have HV0:=Lib.hid (hv.later hb0)
 obtain ⟨fc,oa,oc,ka,kc,A⟩:=hv.at_
 obtain ⟨k0,k1,k2,k3,k4,k16,k17,kr⟩:=A.box HB1.out
 clear hW0 A hv kr
 have HNO:=Lib.hid (Nothing_any S 2 t n h u f hf o ks cc W0 HV0.out)
 obtain ⟨bs,hbs⟩:∃ bs,(!h && (!u && (ks.isEmpty && tfZ f)))=bs:=⟨_,rfl⟩
 rw [hbs] at HNO ⊢
 clear HV0 hf hbs
 by_cases ht:t=[]
 ·subst ht
  rw [show (([]:Str).isEmpty && (nb && (!o.isEmpty && bs)))=(nb && (!o.isEmpty && bs)) from rfl]
  cases nb with
  | false =>
   rw [Bool.false_and]
   clear HNO
   go_enter Tryz.func27,Tryz.ntmps27
   go_upto_region 1 with fail
   rw [← HW0.out]
   clear HW0
   go_cut [3] from 4 to 11 (fun c wx=>c=.bool false∧wx=W0)
   case first =>
    by_cases q0:0≤n
    ·have Q0:=Lib.hid q0
     have g0:decide (0≤n)=true:=decide_eq_true q0
     by_cases q9:n≤9999
     ·have Q9:=Lib.hid q9
      have g9:decide (n≤9999)=true:=decide_eq_true q9
      clear q9
      go_wp2_with fail
      go_meet
      exact ⟨congrArg Value.bool (HNB.out.symm.trans (decide_eq_true ⟨Q0.out,Q9.out⟩)).symm,rfl⟩
     ·have Q9:=Lib.hid q9
      have g9:decide (n≤9999)=false:=decide_eq_false q9
      clear q9
      go_wp2_with fail
      go_meet
      exact ⟨congrArg Value.bool (HNB.out.symm.trans (decide_eq_false (fun h=>by have h1:=Q9.out;have h2:=h.2;omega))).symm,rfl⟩
    ·have Q0:=Lib.hid q0
     have g0:decide (0≤n)=false:=decide_eq_false q0
     clear q0
     go_wp2_with fail
     go_meet
     exact ⟨congrArg Value.bool (HNB.out.symm.trans (decide_eq_false (fun h=>by have h1:=Q0.out;have h2:=h.1;omega))).symm,rfl⟩
   case rest =>
    obtain ⟨rfl,hwc⟩:=hcut
    replace hwc:=hwc.symm
    subst hwc
    go_wp2
    go_ret
    exact ⟨rfl,hb0⟩
  | true =>
   rw [Bool.true_and]
   cases o with
   | cons a o' =>
    rw [show (!(a :: o').isEmpty && bs)=bs from rfl]
    obtain ⟨on,hon⟩:∃ on,(a :: o').length=on:=⟨_,rfl⟩
    rw [hon] at k16
    have hop:0 < on:=by rw [← hon];simp
    have go1:decide ((0:Int) < (on:Int))=true:=decide_eq_true (by omega)
    have go2:decide (0 < on)=true:=decide_eq_true hop
    clear hon
    go_enter Tryz.func27,Tryz.ntmps27
    go_upto_region 1 with fail
    rw [← HW0.out]
    clear HW0
    go_cut [3] from 4 to 11 (fun c wx=>c=.bool true∧wx=W0)
    case first =>
     by_cases q0:0≤n
     ·have Q0:=Lib.hid q0
      have g0:decide (0≤n)=true:=decide_eq_true q0
      by_cases q9:n≤9999
      ·have Q9:=Lib.hid q9
       have g9:decide (n≤9999)=true:=decide_eq_true q9
       clear q9
       go_wp2_with fail
       go_meet
       exact ⟨congrArg Value.bool (HNB.out.symm.trans (decide_eq_true ⟨Q0.out,Q9.out⟩)).symm,rfl⟩
      ·have Q9:=Lib.hid q9
       have g9:decide (n≤9999)=false:=decide_eq_false q9
       clear q9
       go_wp2_with fail
       go_meet
       exact ⟨congrArg Value.bool (HNB.out.symm.trans (decide_eq_false (fun h=>by have h1:=Q9.out;have h2:=h.2;omega))).symm,rfl⟩
     ·have Q0:=Lib.hid q0
      have g0:decide (0≤n)=false:=decide_eq_false q0
      clear q0
      go_wp2_with fail
      go_meet
      exact ⟨congrArg Value.bool (HNB.out.symm.trans (decide_eq_false (fun h=>by have h1:=Q0.out;have h2:=h.1;omega))).symm,rfl⟩
    case rest =>
     obtain ⟨rfl,hwc⟩:=hcut
     replace hwc:=hwc.symm
     subst hwc
     go_wp2_with (first
      | (refine wpList_ldG (by rfl) 38 (.tmp 1) rfl w.heap.size 0 rfl cc _ (range_blk (ds:=[]) (by simpa using HB1.out)) snip_under rfl (by rw [snip_size,hcl]) ?_)
      | (go_at_call 38;refine HNO.out.mono ?_))
     first | rintro e w1 rfl hb1 | rintro e w1 ⟨rfl,hb1⟩
     go_wp2
     go_ret
     exact ⟨rfl,bel2 hb0 hb1⟩
   | nil =>
    rw [show (!([]:List Str).isEmpty && bs)=false from rfl]
    clear HNO
    go_enter Tryz.func27,Tryz.ntmps27
    go_upto_region 1 with fail
    rw [← HW0.out]
    clear HW0
    go_cut [3] from 4 to 11 (fun c wx=>c=.bool true∧wx=W0)
    case first =>
     by_cases q0:0≤n
     ·have Q0:=Lib.hid q0
      have g0:decide (0≤n)=true:=decide_eq_true q0
      by_cases q9:n≤9999
      ·have Q9:=Lib.hid q9
       have g9:decide (n≤9999)=true:=decide_eq_true q9
       clear q9
       go_wp2_with fail
       go_meet
       exact ⟨congrArg Value.bool (HNB.out.symm.trans (decide_eq_true ⟨Q0.out,Q9.out⟩)).symm,rfl⟩
      ·have Q9:=Lib.hid q9
       have g9:decide (n≤9999)=false:=decide_eq_false q9
       clear q9
       go_wp2_with fail
       go_meet
       exact ⟨congrArg Value.bool (HNB.out.symm.trans (decide_eq_false (fun h=>by have h1:=Q9.out;have h2:=h.2;omega))).symm,rfl⟩
     ·have Q0:=Lib.hid q0
      have g0:decide (0≤n)=false:=decide_eq_false q0
      clear q0
      go_wp2_with fail
      go_meet
      exact ⟨congrArg Value.bool (HNB.out.symm.trans (decide_eq_false (fun h=>by have h1:=Q0.out;have h2:=h.1;omega))).symm,rfl⟩
    case rest =>
     obtain ⟨rfl,hwc⟩:=hcut
     replace hwc:=hwc.symm
     subst hwc
     go_wp2
     go_ret
     exact ⟨rfl,hb0⟩
 ·have e1:t.isEmpty=false:=by simpa using ht
  rw [e1,Bool.false_and]
  have hne:(⟨t.toArray⟩:ByteArray)≠⟨#[]⟩:=fun e=>ht (by simpa using e)
  have hq1:(t == ([]:Str))=false:=by simpa using ht
  have hq2:(t != ([]:Str))=true:=by simp [bne,hq1]
  have hq3:decide (t=([]:Str))=false:=decide_eq_false ht
  clear ht e1 HNO
  go_enter Tryz.func27,Tryz.ntmps27
  go_upto_region 1 with fail
  rw [← HW0.out]
  clear HW0
  go_cut [3] from 4 to 11 (fun c wx=>c=.bool nb∧wx=W0)
  case first =>
   by_cases q0:0≤n
   ·have Q0:=Lib.hid q0
    have g0:decide (0≤n)=true:=decide_eq_true q0
    by_cases q9:n≤9999
    ·have Q9:=Lib.hid q9
     have g9:decide (n≤9999)=true:=decide_eq_true q9
     clear q9
     go_wp2_with fail
     go_meet
     exact ⟨congrArg Value.bool (HNB.out.symm.trans (decide_eq_true ⟨Q0.out,Q9.out⟩)).symm,rfl⟩
    ·have Q9:=Lib.hid q9
     have g9:decide (n≤9999)=false:=decide_eq_false q9
     clear q9
     go_wp2_with fail
     go_meet
     exact ⟨congrArg Value.bool (HNB.out.symm.trans (decide_eq_false (fun h=>by have h1:=Q9.out;have h2:=h.2;omega))).symm,rfl⟩
   ·have Q0:=Lib.hid q0
    have g0:decide (0≤n)=false:=decide_eq_false q0
    clear q0
    go_wp2_with fail
    go_meet
    exact ⟨congrArg Value.bool (HNB.out.symm.trans (decide_eq_false (fun h=>by have h1:=Q0.out;have h2:=h.1;omega))).symm,rfl⟩
  case rest =>
   obtain ⟨rfl,hwc⟩:=hcut
   replace hwc:=hwc.symm
   subst hwc
   go_wp2
   go_ret
   exact ⟨rfl,hb0⟩
set_option maxHeartbeats 4000000 in
theorem Fld3_any (S:Nat→Prop) (t:Str) (htl:t.length≤1000000) (n:Int) (h u:Bool) (f:Tf) (hf:f.small) (o:List Str) (ks:List Sn) (cc:List Value) (w:World) (hv:SnV w S cc (.mk 3 t n h u f o ks)) :
  Calls Tryz.prog 27 #[.agg cc.toArray] w fun e w'=>e=.returned (.bool (nameB t && (decide (n=0) && (o.isEmpty && besidesS (.mk 3 t n h u f o ks)))))∧Below w.heap.size w w':=by
 obtain ⟨nb,hnb⟩:∃ nb,decide (0≤n∧n≤9999)=nb:=⟨_,rfl⟩
 have HNB:=Lib.hid hnb
 clear hnb
 obtain ⟨W0,hW0⟩:∃ W0,W0=w.alloc (.cells cc.toArray 38):=⟨_,rfl⟩
 have hb0:Below w.heap.size w W0:=by rw [hW0];exact (Below.refl _ _).alloc (Nat.le_refl _) _
 have HB1:Hid (W0.heap[w.heap.size]?=some (.cells cc.toArray 38 (0,0))):=Lib.hid (by rw [hW0];exact heap_alloc_new w _)
 have HW0:=Lib.hid hW0
 have hcl:=hv.len
 have HV0:=Lib.hid (hv.later hb0)
 obtain ⟨fc,oa,oc,ka,kc,A⟩:=hv.at_
 obtain ⟨k0,k1,k2,k3,k4,k16,k17,kr⟩:=A.box HB1.out
 clear hW0 A hv kr
 have HNO:=Lib.hid (Besides_any S 3 t n h u f hf o ks cc W0 HV0.out)
 have HNA:=Lib.hid (fun w=>SName_any t w htl)
 obtain ⟨bs,hbs⟩:∃ bs,besidesS (.mk 3 t n h u f o ks)=bs:=⟨_,rfl⟩
 rw [hbs] at HNO ⊢
 clear HV0 hf hbs
 cases hnm:nameB t with
 | false =>
  rw [Bool.false_and]
  rw [hnm] at HNA
  clear HNO hnm
  go_enter Tryz.func27,Tryz.ntmps27
  go_upto_region 1 with fail
  rw [← HW0.out]
  clear HW0
  go_cut [3] from 4 to 11 (fun c wx=>c=.bool nb∧wx=W0)
  case first =>
   by_cases q0:0≤n
   ·have Q0:=Lib.hid q0
    have g0:decide (0≤n)=true:=decide_eq_true q0
    by_cases q9:n≤9999
    ·have Q9:=Lib.hid q9
     have g9:decide (n≤9999)=true:=decide_eq_true q9
     clear q9
     go_wp2_with fail
     go_meet
     exact ⟨congrArg Value.bool (HNB.out.symm.trans (decide_eq_true ⟨Q0.out,Q9.out⟩)).symm,rfl⟩
    ·have Q9:=Lib.hid q9
     have g9:decide (n≤9999)=false:=decide_eq_false q9
     clear q9
     go_wp2_with fail
     go_meet
     exact ⟨congrArg Value.bool (HNB.out.symm.trans (decide_eq_false (fun h=>by have h1:=Q9.out;have h2:=h.2;omega))).symm,rfl⟩
   ·have Q0:=Lib.hid q0
    have g0:decide (0≤n)=false:=decide_eq_false q0
    clear q0
    go_wp2_with fail
    go_meet
    exact ⟨congrArg Value.bool (HNB.out.symm.trans (decide_eq_false (fun h=>by have h1:=Q0.out;have h2:=h.1;omega))).symm,rfl⟩
  case rest =>
   obtain ⟨rfl,hwc⟩:=hcut
   replace hwc:=hwc.symm
   subst hwc
   go_wp2_with (go_at_call 40;refine (HNA.out _).mono ?_)
   first | rintro e w5 rfl rfl | rintro e w5 ⟨rfl,rfl⟩
   go_wp2
   go_ret
   exact ⟨rfl,hb0⟩
 | true =>
  rw [Bool.true_and]
  rw [hnm] at HNA
  clear hnm
  by_cases hn:n=0
  ·rw [decide_eq_true hn,Bool.true_and]
   have gn:(n == 0)=true:=by rw [beq_iff_eq];exact hn
   clear hn
   cases o with
   | cons a o' =>
    rw [show ((a :: o').isEmpty && bs)=false from rfl]
    obtain ⟨on,hon⟩:∃ on,(a :: o').length=on:=⟨_,rfl⟩
    rw [hon] at k16
    have hop:0 < on:=by rw [← hon];simp
    have go1:((on:Int) == 0)=false:=by rw [beq_eq_false_iff_ne];omega
    clear hon HNO
    go_enter Tryz.func27,Tryz.ntmps27
    go_upto_region 1 with fail
    rw [← HW0.out]
    clear HW0
    go_cut [3] from 4 to 11 (fun c wx=>c=.bool nb∧wx=W0)
    case first =>
     by_cases q0:0≤n
     ·have Q0:=Lib.hid q0
      have g0:decide (0≤n)=true:=decide_eq_true q0
      by_cases q9:n≤9999
      ·have Q9:=Lib.hid q9
       have g9:decide (n≤9999)=true:=decide_eq_true q9
       clear q9
       go_wp2_with fail
       go_meet
       exact ⟨congrArg Value.bool (HNB.out.symm.trans (decide_eq_true ⟨Q0.out,Q9.out⟩)).symm,rfl⟩
      ·have Q9:=Lib.hid q9
       have g9:decide (n≤9999)=false:=decide_eq_false q9
       clear q9
       go_wp2_with fail
       go_meet
       exact ⟨congrArg Value.bool (HNB.out.symm.trans (decide_eq_false (fun h=>by have h1:=Q9.out;have h2:=h.2;omega))).symm,rfl⟩
     ·have Q0:=Lib.hid q0
      have g0:decide (0≤n)=false:=decide_eq_false q0
      clear q0
      go_wp2_with fail
      go_meet
      exact ⟨congrArg Value.bool (HNB.out.symm.trans (decide_eq_false (fun h=>by have h1:=Q0.out;have h2:=h.1;omega))).symm,rfl⟩
    case rest =>
     obtain ⟨rfl,hwc⟩:=hcut
     replace hwc:=hwc.symm
     subst hwc
     go_wp2_with (go_at_call 40;refine (HNA.out _).mono ?_)
     first | rintro e w5 rfl rfl | rintro e w5 ⟨rfl,rfl⟩
     go_wp2
     go_ret
     exact ⟨rfl,hb0⟩
   | nil =>
    rw [show (([]:List Str).isEmpty && bs)=bs from rfl]
    go_enter Tryz.func27,Tryz.ntmps27
    go_upto_region 1 with fail
    rw [← HW0.out]
    clear HW0
    go_cut [3] from 4 to 11 (fun c wx=>c=.bool nb∧wx=W0)
    case first =>
     by_cases q0:0≤n
     ·have Q0:=Lib.hid q0
      have g0:decide (0≤n)=true:=decide_eq_true q0
      by_cases q9:n≤9999
      ·have Q9:=Lib.hid q9
       have g9:decide (n≤9999)=true:=decide_eq_true q9
       clear q9
       go_wp2_with fail
       go_meet
       exact ⟨congrArg Value.bool (HNB.out.symm.trans (decide_eq_true ⟨Q0.out,Q9.out⟩)).symm,rfl⟩
      ·have Q9:=Lib.hid q9
       have g9:decide (n≤9999)=false:=decide_eq_false q9
       clear q9
       go_wp2_with fail
       go_meet
       exact ⟨congrArg Value.bool (HNB.out.symm.trans (decide_eq_false (fun h=>by have h1:=Q9.out;have h2:=h.2;omega))).symm,rfl⟩
     ·have Q0:=Lib.hid q0
      have g0:decide (0≤n)=false:=decide_eq_false q0
      clear q0
      go_wp2_with fail
      go_meet
      exact ⟨congrArg Value.bool (HNB.out.symm.trans (decide_eq_false (fun h=>by have h1:=Q0.out;have h2:=h.1;omega))).symm,rfl⟩
    case rest =>
     obtain ⟨rfl,hwc⟩:=hcut
     replace hwc:=hwc.symm
     subst hwc
     go_wp2_with (go_at_call 40;refine (HNA.out _).mono ?_)
     first | rintro e w5 rfl rfl | rintro e w5 ⟨rfl,rfl⟩
     go_wp2_with (first
      | (refine wpList_ldG (by rfl) 38 (.tmp 1) rfl w.heap.size 0 rfl cc _ (range_blk (ds:=[]) (by simpa using HB1.out)) snip_under rfl (by rw [snip_size,hcl]) ?_)
      | (go_at_call 39;refine HNO.out.mono ?_))
     first | rintro e w1 rfl hb1 | rintro e w1 ⟨rfl,hb1⟩
     go_wp2
     go_ret
     exact ⟨rfl,bel2 hb0 hb1⟩
  ·rw [decide_eq_false hn,Bool.false_and]
   have gn:(n == 0)=false:=by rw [beq_eq_false_iff_ne];exact hn
   clear hn HNO
   go_enter Tryz.func27,Tryz.ntmps27
   go_upto_region 1 with fail
   rw [← HW0.out]
   clear HW0
   go_cut [3] from 4 to 11 (fun c wx=>c=.bool nb∧wx=W0)
   case first =>
    by_cases q0:0≤n
    ·have Q0:=Lib.hid q0
     have g0:decide (0≤n)=true:=decide_eq_true q0
     by_cases q9:n≤9999
     ·have Q9:=Lib.hid q9
      have g9:decide (n≤9999)=true:=decide_eq_true q9
      clear q9
      go_wp2_with fail
      go_meet
      exact ⟨congrArg Value.bool (HNB.out.symm.trans (decide_eq_true ⟨Q0.out,Q9.out⟩)).symm,rfl⟩
     ·have Q9:=Lib.hid q9
      have g9:decide (n≤9999)=false:=decide_eq_false q9
      clear q9
      go_wp2_with fail
      go_meet
      exact ⟨congrArg Value.bool (HNB.out.symm.trans (decide_eq_false (fun h=>by have h1:=Q9.out;have h2:=h.2;omega))).symm,rfl⟩
    ·have Q0:=Lib.hid q0
     have g0:decide (0≤n)=false:=decide_eq_false q0
     clear q0
     go_wp2_with fail
     go_meet
     exact ⟨congrArg Value.bool (HNB.out.symm.trans (decide_eq_false (fun h=>by have h1:=Q0.out;have h2:=h.1;omega))).symm,rfl⟩
   case rest =>
    obtain ⟨rfl,hwc⟩:=hcut
    replace hwc:=hwc.symm
    subst hwc
    go_wp2_with (go_at_call 40;refine (HNA.out _).mono ?_)
    first | rintro e w5 rfl rfl | rintro e w5 ⟨rfl,rfl⟩
    go_wp2
    go_ret
    exact ⟨rfl,hb0⟩
end Go.Proofs.YtbmakifbppocaaaGreatDoor
set_option maxRecDepth 100000
namespace Go.Proofs.YtbmakifbppocaaaGreatDoor
open Go.RowKit
/-- Is the part ahead of the rest a text? -/
def prevT (ks:List Sn) (i:Nat):Bool:=match i with | 0=>false | j+1=>((ks[j]?).map fun x=>decide (x.kind=0)).getD false
end Go.Proofs.YtbmakifbppocaaaGreatDoor
set_option maxRecDepth 100000
namespace Go.Proofs.YtbmakifbppocaaaGreatDoor
open Go.RowKit
theorem wfL_mem0:∀ {l:List Sn},Sn.wfL l=true→∀ x ∈ l,x.wf=true
 | [],_,x,h=>by cases h
 | y :: r,hl,x,h=>by
  simp only [Sn.wfL,Bool.and_eq_true] at hl
  rcases List.mem_cons.1 h with rfl | h
  ·exact hl.1
  ·exact wfL_mem0 hl.2 x h
end Go.Proofs.YtbmakifbppocaaaGreatDoor
