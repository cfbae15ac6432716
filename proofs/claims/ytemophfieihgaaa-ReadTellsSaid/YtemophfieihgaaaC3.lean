/- walk of rxtree.Clone -/
import Derived.Test.YtemophfieihgaaaC2
set_option maxRecDepth 100000
namespace Go.Proofs.Ytemophfieihgaaa
open Go.RowKit
def ClRel (ks : List Rx) (w : World) (v q : Value) (wr : World) : Prop :=
  ∃ i : Nat, i ≤ ks.length ∧ q = .int .i64 i ∧ Below w.heap.size w wr ∧ OwnX wr w.heap.size v (ks.take i)
set_option maxHeartbeats 1000000 in
theorem Clone_any (S : Nat → Prop) : ∀ (N : Nat) (x : Rx), x.parts ≤ N → x.small → ∀ (cc : List Value) (w : World), RxV w S cc x →
    Calls Try.prog 33 #[.agg cc.toArray] w fun e w' => ∃ cc', e = .returned (.agg cc'.toArray) ∧ RxV w' (fun b => w.heap.size ≤ b) cc' x ∧ Below w.heap.size w w'
  | 0, x, h, _, _, _, _ => by have := Rx.parts_pos x; omega
  | N + 1, .mk k c ng rs lo hi lz ks, h, hsm, cc, w, hv => by
    obtain ⟨ra, rc, ka, kc, rfl, hrs, hx⟩ := hv.open_
    obtain ⟨⟨s1, s2, s3, s4⟩, hsmL⟩ := hsm
    simp only [Rx.parts] at h
    have ih : ∀ y ∈ ks, ∀ (cc : List Value) (w : World), RxV w S cc y → Calls Try.prog 33 #[.agg cc.toArray] w fun e w' => ∃ cc', e = .returned (.agg cc'.toArray) ∧ RxV w' (fun b => w.heap.size ≤ b) cc' y ∧ Below w.heap.size w w' :=
      fun y hy => Clone_any S N y (by have := Rx.parts_mem hy; omega) (smallL_mem hsmL hy)
    have IH := Lib.hid ih
    obtain ⟨ix, hix⟩ := info_parts rx_info
    obtain ⟨w0, hw0⟩ : ∃ w0, w0 = (w.alloc (.cells #[.int .i64 k, .string ⟨(c).toArray⟩, .bool ng, .slice ra rs.length rc, .int .i64 lo, .int .i64 hi, .bool lz, .slice ka ks.length kc] 26)).alloc (.cells #[.int .i64 0, .string ⟨#[]⟩, .bool false, .slice none 0 0, .int .i64 0, .int .i64 0, .bool false, .slice none 0 0] 26) := ⟨_, rfl⟩
    have hb0 : Below w.heap.size w w0 := by rw [hw0]; exact ((Below.refl _ _).alloc (Nat.le_refl _) _).alloc (by simp) _
    have hz0 : w0.heap.size = w.heap.size + 2 := by rw [hw0]; simp
    have hbx0 : w0.heap[w.heap.size]? = some (.cells #[.int .i64 k, .string ⟨(c).toArray⟩, .bool ng, .slice ra rs.length rc, .int .i64 lo, .int .i64 hi, .bool lz, .slice ka ks.length kc] 26 (0, 0)) := by
      rw [hw0, Below.heap_alloc _ _ _ (by simp)]; exact heap_alloc_new w _
    have hby0 : w0.heap[w.heap.size + 1]? = some (.cells #[.int .i64 0, .string ⟨#[]⟩, .bool false, .slice none 0 0, .int .i64 0, .int .i64 0, .bool false, .slice none 0 0] 26 (0, 0)) := by
      rw [hw0]
      have := heap_alloc_new (w.alloc (.cells #[.int .i64 k, .string ⟨(c).toArray⟩, .bool ng, .slice ra rs.length rc, .int .i64 lo, .int .i64 hi, .bool lz, .slice ka ks.length kc] 26)) (.cells #[.int .i64 0, .string ⟨#[]⟩, .bool false, .slice none 0 0, .int .i64 0, .int .i64 0, .bool false, .slice none 0 0] 26)
      simpa using this
    have HX := Lib.hid hx
    have HRS := Lib.hid (hrs.keep (Kept.all hb0)).sl
    have HBX0 := Lib.hid hbx0
    have HBY0 := Lib.hid hby0
    have HW0 := Lib.hid hw0
    rw [hw0] at HRS
    clear hx hv hrs ih hsmL hbx0 hby0 hw0
    unfold rxc
    go_enter Try.func33, Try.ntmps33
    go_wp2_with (go_at_call 44; refine (SClone_any _ _ _ rs _ HRS.out s2).mono ?_)
    rintro e w1 ⟨ra', rc', rfl, hrs1, hb1⟩
    rw [← HW0.out] at hb1 hrs1
    have hbx1 := (hb1.block _ (heap_lt HBX0.out)).trans HBX0.out
    have hby1 := (hb1.block _ (heap_lt HBY0.out)).trans HBY0.out
    obtain ⟨w2, hw2⟩ : ∃ w2, w2 = w1.setCell ⟨w.heap.size, 3, none⟩ (.slice ra' rs.length rc') := ⟨_, rfl⟩
    have HW2 := Lib.hid hw2
    obtain ⟨e0, e1, e2, e3, e4, e5, e6, e7, e8⟩ := bx_cells hbx1
    go_wp2
    rw [← hw2]
    have hbw1 := bel2 hb0 hb1
    have hz1 := hb1.size
    have hbw2 : Below w.heap.size w w2 := by rw [hw2]; exact hbw1.setCell (Nat.le_refl _) _
    have HBX2 : Hid (w2.heap[w.heap.size]? = some (.cells #[.int .i64 k, .string ⟨(c).toArray⟩, .bool ng, .slice ra' rs.length rc', .int .i64 lo, .int .i64 hi, .bool lz, .slice ka ks.length kc] 26 (0, 0))) := Lib.hid (by
      rw [hw2, heap_setCell_same w1 _ _ _ _ _ hbx1]; rfl)
    have HBY2 : Hid (w2.heap[w.heap.size + 1]? = some (.cells #[.int .i64 0, .string ⟨#[]⟩, .bool false, .slice none 0 0, .int .i64 0, .int .i64 0, .bool false, .slice none 0 0] 26 (0, 0))) := Lib.hid (by
      rw [hw2, heap_setCell_other w1 _ _ _ (by simp)]; exact hby1)
    have HRS2 : Hid (SlS w2 (fun b => w.heap.size + 2 ≤ b) ra' 2 rs.length (rcells rs)) := Lib.hid (by
      rw [hw2]; rw [hz0] at hrs1; exact hrs1.keep (Kept.setLow _ fun b hb => by have : w.heap.size + 2 ≤ b := hb; simp; omega))
    have HX2 := Lib.hid (HX.out.later hbw2)
    have hz2 : w.heap.size + 2 ≤ w2.heap.size := by rw [hw2]; simp [World.setCell]; omega
    clear hb1 hbx1 hby1 hrs1 e0 e1 e2 e3 e4 e5 e6 e7 e8 hw2
    go_loopw [3, 13] (fun v q wr => ClRel ks w2 v q wr) (fun _ q _ => ks.length - (intOf q).toNat)
    case atStart => exact ⟨0, by omega, rfl, Below.refl _ _, by rw [List.take_zero]; exact OwnX.nil _ _⟩
    case round =>
      obtain ⟨i, hik, rfl, hb, hox⟩ := hrel
      have hB := hb.size
      have hbb := hbw2.trans (hb.mono (by omega))
      cases hd : ks.drop i with
      | nil =>
        have h2 : ks.length ≤ i := by simpa using hd
        have hbxr := (hb.block _ (heap_lt HBX2.out)).trans HBX2.out
        have hbyr := (hb.block _ (heap_lt HBY2.out)).trans HBY2.out
        obtain ⟨e0, e1, e2, e3, e4, e5, e6, e7, e8⟩ := bx_cells hbxr
        obtain ⟨f0, f1, f2, f3, f4, f5, f6, f7, f8⟩ := bx_cells (c := []) hbyr
        rw [List.take_of_length_le h2] at hox
        obtain ⟨css, hown, hrv⟩ := hox
        obtain ⟨va, vc, rfl⟩ := own_form hown
        have hxs := OwnX.sl ⟨css, hown, hrv⟩
        clear hd hown hrv hbxr hbyr
        go_wp2
        have HRr : SlS wr (fun b => w.heap.size + 2 ≤ b) ra' 2 rs.length (rcells rs) := HRS2.out.keep (Kept.all hb)
        have hxr : RxSl wr (fun b => w.heap.size + 2 ≤ b) va ks.length ks := hxs.2.mono fun b hb _ => by have : w2.heap.size ≤ b := hb; show w.heap.size + 2 ≤ b; omega
        refine bodyPost_ret (v := .agg #[.int .i64 k, .string ⟨(c).toArray⟩, .bool ng, .slice ra' rs.length rc', .int .i64 lo, .int .i64 hi, .bool lz, .slice va ks.length vc]) (by simp [results, Try.results33, go_sem, f0, f1, f2, f3, f4, f5, f6, f7]) rfl ?_
        refine ⟨rxc k c ng ra' rs.length rc' lo hi lz va ks.length vc, ?_, RxV.mono (S := fun b => w.heap.size + 2 ≤ b) (fun b hb _ => by have : w.heap.size + 2 ≤ b := hb; show w.heap.size ≤ b; omega) (RxV.close ?_ ?_), ?_⟩
        · rfl
        · iterate 9 (refine SlS.keep ?_ (Kept.setLow _ (fun b hb => by have : w.heap.size + 2 ≤ b := hb; simp; omega)))
          exact HRr
        · iterate 9 (refine RxSl.keep ?_ (Kept.setLow _ (fun b hb => by have : w.heap.size + 2 ≤ b := hb; simp; omega)))
          exact hxr
        · iterate 9 (refine Below.setCell ?_ (by simp) _)
          exact hbb
      | cons y r =>
        obtain ⟨h2, h3, hr⟩ := ldrop_cons hd
        have hym := List.mem_of_getElem? h3
        have HYM := Lib.hid (IH.out y hym)
        have HTK : Hid (ks.take (i + 1) = ks.take i ++ [y]) := Lib.hid (by rw [List.take_add_one, h3]; rfl)
        obtain ⟨yk, yc, yn, yr, yl, yh, yz, ys⟩ := y
        obtain ⟨b, o, ya, yrc, yka, ykc, rfl, hS, hbB, _, _, hyv, c0, c1, c2, c3, c4, c5, c6, c7⟩ := (HX2.out.later hb).cells h3
        have HYV := Lib.hid (hyv.later ((Below.refl wr.heap.size wr).alloc (Nat.le_refl _) (.cells (rxc yk yc yn ya yr.length yrc yl yh yz yka ys.length ykc).toArray 26)))
        unfold rxc at HYV
        obtain ⟨css, hown, hrv⟩ := hox
        have hli : (ks.take i).length = i := by rw [List.length_take]; omega
        rw [hli] at hown
        have HLI := Lib.hid hli
        clear hli
        obtain ⟨va, vc, rfl⟩ := own_form hown
        have hlt := hown.lt
        have hbr : ∀ ob : Obj, Below wr.heap.size wr (wr.alloc ob) := fun ob => (Below.refl _ _).alloc (Nat.le_refl _) _
        clear hd hr h3 hyv hym
        go_wp2_with (go_at_call 33; refine (HYM.out _ _ HYV.out).mono ?_)
        rintro e w3 ⟨cc', rfl, hcv, hb3⟩
        obtain ⟨za, zc, zka, zkc, rfl, hzr, hzx⟩ := hcv.open_
        have hb3' : Below wr.heap.size wr w3 := (hbr _).trans (hb3.mono (by simp))
        have hz3 := hb3'.size
        have ho3 := own_below (own_below hown hb3') ((Below.refl w3.heap.size w3).alloc (Nat.le_refl _) (.cells (rxc yk yc yn za yr.length zc yl yh yz zka ys.length zkc).toArray 26))
        have hsl := Sl.lit (n := 1) (sz := 8) (heap_alloc_new w3 (.cells (rxc yk yc yn za yr.length zc yl yh yz zka ys.length zkc).toArray 26)) rfl
        have hrv3 := (hrv.later hb3').later ((Below.refl w3.heap.size w3).alloc (Nat.le_refl _) (.cells (rxc yk yc yn za yr.length zc yl yh yz zka ys.length zkc).toArray 26))
        have hcv3 := hcv.later ((Below.refl w3.heap.size w3).alloc (Nat.le_refl _) (.cells (rxc yk yc yn za yr.length zc yl yh yz zka ys.length zkc).toArray 26))
        have hone := hcv.one
        unfold rxc at ho3 hsl hrv3 hcv3 hone
        have HO3 := Lib.hid ho3; have HSL := Lib.hid hsl; have HRV3 := Lib.hid hrv3; have HCV3 := Lib.hid hcv3; have HONE := Lib.hid hone
        clear ho3 hsl hrv3 hcv3 hone hown hrv hcv hzr hzx hb3
        unfold rxc
        go_wp2_with (at_builtin; refine wpList_appM w2.heap.size 26 rfl _ _ 24 rfl Try.underlying24 hix rfl (by decide) rfl HO3.out rfl HSL.out HONE.out (by omega) (by omega) (by decide) (by simp; omega) ?_)
        intro v1 w4 ho1 hg1 hb4 hmv
        have hox4 : OwnX w4 w2.heap.size v1 (ks.take (i + 1)) := by
          rw [HTK.out]
          refine OwnX.app (ds := [_]) (m := 1) HRV3.out (.cons (HCV3.out.mono fun b hb _ => ?_) .nil) rfl ?_ hg1 hmv
          · have hb' : wr.heap.size + 1 ≤ b := by simpa using hb
            exact ⟨by omega, fun e => by have := (hlt b e).2; omega⟩
          · rw [HLI.out]; simpa using ho1
        have hb4' : Below w2.heap.size w2 w4 := (bel2 hb (hb3'.trans ((Below.refl w3.heap.size w3).alloc (Nat.le_refl _) (.cells #[.int .i64 yk, .string ⟨(yc).toArray⟩, .bool yn, .slice za yr.length zc, .int .i64 yl, .int .i64 yh, .bool yz, .slice zka ys.length zkc] 26) |>.mono hz3))).trans hb4
        clear ho1 hg1 hmv
        go_wp2
        go_roundw
        case rel => exact ⟨i + 1, by omega, by go_num, hb4', hox4⟩
        case measure => simp [intOf]; omega
end Go.Proofs.Ytemophfieihgaaa
