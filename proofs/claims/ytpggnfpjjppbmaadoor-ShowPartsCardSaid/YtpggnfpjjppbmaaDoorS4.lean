/- walk of rxshow.show: the parts with kids; rxshow.Show -/
import Derived.Test.YtpggnfpjjppbmaaDoorS3
import Derived.Test.YtpggnfpjjppbmaaDoorR8
set_option maxRecDepth 100000
namespace Go.Proofs.YtpggnfpjjppbmaaDoor
open Go.RowKit
def ShowC (B g : Nat) (x : Rx) : Prop := ∀ (cc : List Value) (acc : Str) (w : World), RxV w (· < B) cc x → Bld B g acc w → B ≤ w.heap.size → Tab w → (acc ++ x.tell).length ≤ 10000000 →
  Calls Tryd.prog 22 #[.pointer (some ⟨g, 0, none⟩), .agg cc.toArray] w fun e w' => ShwPost B g (acc ++ x.tell) w e w'
theorem ShowC.at_ {B g : Nat} {x : Rx} {out : Str} (h : ShowC B g x) {cc : List Value} {acc : Str} {w : World} (hv : RxV w (· < B) cc x) (hbl : Bld B g acc w) (hB : B ≤ w.heap.size) (ht : Tab w) (ho : acc ++ x.tell = out) (hl : out.length ≤ 10000000) :
    Calls Tryd.prog 22 #[.pointer (some ⟨g, 0, none⟩), .agg cc.toArray] w fun e w' => e = .returned (.tuple #[]) ∧ Bld B g out w' ∧ Fr B [g] [5] w w' := by
  subst ho; exact h cc acc w hv hbl hB ht hl
def tlF (_ : Nat) (ks : List Rx) : Str := Rx.tellL ks
def taF (k : Nat) (ks : List Rx) : Str := Rx.tellA (decide (0 < k)) ks
theorem end_fr {B g : Nat} {a w w' : World} (h : Fr B [g] [5] a w) (h' : Fr B [g] [5] w w') : Fr B [g] [5] a w' := h.trans h'
set_option maxHeartbeats 4000000 in
theorem show_seq (B g : Nat) (acc : Str) (c : Str) (ng : Bool) (ra : Option Addr) (rs : List (Str × Str)) (rn rc : Nat) (lo hi : Int) (lz : Bool) (ka : Option Addr) (ks : List Rx) (kc : Nat) (w : World)
    (ih : ∀ y ∈ ks, ShowC B g y) (hgT : 1 < B)
    (hbl : Bld B g acc w) (hB : B ≤ w.heap.size) (ht : Tab w) (hx : RxSl w (· < B) ka ks.length ks) (hkl : ks.length ≤ 1000000)
    (hlen : (acc ++ tlF 0 ks).length ≤ 10000000) :
    Calls Tryd.prog 22 #[.pointer (some ⟨g, 0, none⟩), .agg #[.int .i64 0, .string ⟨(c).toArray⟩, .bool ng, .slice ra rn rc, .int .i64 lo, .int .i64 hi, .bool lz, .slice ka ks.length kc]] w fun e w' => ShwPost B g (acc ++ (Rx.mk 0 c ng rs lo hi lz ks).tell) w e w' := by
  have IH := Lib.hid ih
  clear ih
  obtain ⟨T, hT⟩ : ∃ T, acc ++ tlF 0 ks = T := ⟨_, rfl⟩
  have HT0 : Hid (acc ++ tlF 0 (ks.drop 0) = T) := Lib.hid hT
  have HTL : T.length ≤ 10000000 := by rw [← hT]; exact hlen
  have HTT := Lib.hid hT
  clear hT hlen
  have hgl := hbl.lt
  have hgB := hbl.le
  obtain ⟨w0, hw0⟩ : ∃ w0, w0 = w.alloc (.cells #[.int .i64 0, .string ⟨(c).toArray⟩, .bool ng, .slice ra rn rc, .int .i64 lo, .int .i64 hi, .bool lz, .slice ka ks.length kc] 25) := ⟨_, rfl⟩
  have hb0 : Below w.heap.size w w0 := by rw [hw0]; exact (Below.refl _ _).alloc (Nat.le_refl _) _
  have HX := Lib.hid (hx.keep (Kept.all hb0))
  have hbl0 : Bld B g acc w0 := by rw [hw0]; exact hbl.alloc _
  have HTB := Lib.hid (ht.keep hb0)
  have hB0 : B ≤ w0.heap.size := Nat.le_trans hB hb0.size
  clear hx ht hbl
  go_enter Tryd.func22, Tryd.ntmps22
  go_wp2
  rw [← hw0]
  have hf0 : Fr B [g] [5] w w0 := Fr.of_below hb0 (Nat.le_refl _)
  clear hw0
  go_loopw [15] (fun q wr => TellRel B g ks tlF T w0 q wr) (fun q _ => ks.length - (intOf q).toNat)
  case atStart => exact ⟨0, acc, by omega, rfl, hbl0, Fr.refl _ _ _ _, HT0⟩
  case round =>
    obtain ⟨k, ac, hk, rfl, hblr, hfrr, HF⟩ := hrel
    clear HT0 hbl0
    have hBr : B ≤ wr.heap.size := Nat.le_trans hB0 hfrr.size
    have hkp := Kept.fr hfrr hB0 hgB
    have htr : Tab wr := HTB.out.keepB hgT (hfrr.below hB0 (by simpa using hgB))
    have hgl2 := hblr.lt
    have hacl : ac.length ≤ 10000000 := by have h := congrArg List.length HF.out; simp only [List.length_append] at h; omega
    cases hd : ks.drop k with
    | nil =>
      have h2 : ks.length ≤ k := by simpa using hd
      have HE : Hid (ac = T) := Lib.hid (by rw [← HF.out, hd]; simp [tlF, Rx.tellL])
      clear hd HF
      go_wp2
      go_end0
      exact ⟨rfl, by have h := hblr; rw [HE.out, ← HTT.out] at h; simpa [Rx.tell, tlF] using h, hf0.trans hfrr⟩
    | cons y r =>
      obtain ⟨h2, h3, hr⟩ := ldrop_cons hd
      have hymem := List.mem_of_getElem? h3
      obtain ⟨yk, yc, yn, yr, yl, yh, yz, ys⟩ := y
      obtain ⟨b, o, ya, yrc, yka, ykc, rfl, hS, hbB, _, _, hyv, c0, c1, c2, c3, c4, c5, c6, c7⟩ := (HX.out.keep hkp).cells h3
      have Hr := Lib.hid hr
      have HYV := Lib.hid (hyv.keep (Kept.all ((Below.refl wr.heap.size wr).alloc (Nat.le_refl _) (.cells (rxc yk yc yn ya yr.length yrc yl yh yz yka ys.length ykc).toArray 25))))
      unfold rxc at HYV
      have HE : Hid (ac ++ (Rx.tell (.mk yk yc yn yr yl yh yz ys) ++ tlF (k + 1) r) = T) := Lib.hid (by rw [← HF.out, hd]; rfl)
      have hol : (ac ++ Rx.tell (.mk yk yc yn yr yl yh yz ys)).length ≤ 10000000 := by have h := congrArg List.length HE.out; simp only [List.length_append] at h ⊢; omega
      have HTA := Lib.hid (htr.keep ((Below.refl wr.heap.size wr).alloc (Nat.le_refl _) (.cells (rxc yk yc yn ya yr.length yrc yl yh yz yka ys.length ykc).toArray 25)))
      unfold rxc at HTA
      clear hd HF hr h3 hyv htr
      go_wp2_with (go_at_call 22; refine ((IH.out _ hymem).at_ HYV.out (hblr.alloc _) (by simp; omega) HTA.out rfl hol).mono ?_)
      first | rintro e w2 rfl hbl2 hfr2 | rintro e w2 ⟨rfl, hbl2, hfr2⟩
      go_wp2_with fail
      go_roundw
      case rel => exact ⟨k + 1, _, by omega, by go_num, hbl2, hfrr.trans (((Fr.refl _ _ _ _).alloc _).trans hfr2), Lib.hid (by rw [Hr.out, ← HE.out, List.append_assoc])⟩
      case measure => simp [intOf]; omega
set_option maxHeartbeats 4000000 in
theorem show_alt (B g : Nat) (acc : Str) (c : Str) (ng : Bool) (ra : Option Addr) (rs : List (Str × Str)) (rn rc : Nat) (lo hi : Int) (lz : Bool) (ka : Option Addr) (ks : List Rx) (kc : Nat) (w : World)
    (ih : ∀ y ∈ ks, ShowC B g y) (hgT : 1 < B)
    (hbl : Bld B g acc w) (hB : B ≤ w.heap.size) (ht : Tab w) (hx : RxSl w (· < B) ka ks.length ks) (hkl : ks.length ≤ 1000000)
    (hlen : (acc ++ taF 0 ks).length ≤ 10000000) :
    Calls Tryd.prog 22 #[.pointer (some ⟨g, 0, none⟩), .agg #[.int .i64 1, .string ⟨(c).toArray⟩, .bool ng, .slice ra rn rc, .int .i64 lo, .int .i64 hi, .bool lz, .slice ka ks.length kc]] w fun e w' => ShwPost B g (acc ++ (Rx.mk 1 c ng rs lo hi lz ks).tell) w e w' := by
  have IH := Lib.hid ih
  clear ih
  obtain ⟨T, hT⟩ : ∃ T, acc ++ taF 0 ks = T := ⟨_, rfl⟩
  have HT0 : Hid (acc ++ taF 0 (ks.drop 0) = T) := Lib.hid hT
  have HTL : T.length ≤ 10000000 := by rw [← hT]; exact hlen
  have HTT := Lib.hid hT
  clear hT hlen
  have hgl := hbl.lt
  have hgB := hbl.le
  obtain ⟨w0, hw0⟩ : ∃ w0, w0 = w.alloc (.cells #[.int .i64 1, .string ⟨(c).toArray⟩, .bool ng, .slice ra rn rc, .int .i64 lo, .int .i64 hi, .bool lz, .slice ka ks.length kc] 25) := ⟨_, rfl⟩
  have hb0 : Below w.heap.size w w0 := by rw [hw0]; exact (Below.refl _ _).alloc (Nat.le_refl _) _
  have HX := Lib.hid (hx.keep (Kept.all hb0))
  have hbl0 : Bld B g acc w0 := by rw [hw0]; exact hbl.alloc _
  have HTB := Lib.hid (ht.keep hb0)
  have hB0 : B ≤ w0.heap.size := Nat.le_trans hB hb0.size
  clear hx ht hbl
  go_enter Tryd.func22, Tryd.ntmps22
  go_wp2
  rw [← hw0]
  have hf0 : Fr B [g] [5] w w0 := Fr.of_below hb0 (Nat.le_refl _)
  clear hw0
  go_loopw [28] (fun q wr => TellRel B g ks taF T w0 q wr) (fun q _ => ks.length - (intOf q).toNat)
  case atStart => exact ⟨0, acc, by omega, rfl, hbl0, Fr.refl _ _ _ _, HT0⟩
  case round =>
    obtain ⟨k, ac, hk, rfl, hblr, hfrr, HF⟩ := hrel
    clear HT0 hbl0
    have hBr : B ≤ wr.heap.size := Nat.le_trans hB0 hfrr.size
    have hkp := Kept.fr hfrr hB0 hgB
    have htr : Tab wr := HTB.out.keepB hgT (hfrr.below hB0 (by simpa using hgB))
    have hgl2 := hblr.lt
    have hacl : ac.length ≤ 10000000 := by have h := congrArg List.length HF.out; simp only [List.length_append] at h; omega
    cases hd : ks.drop k with
    | nil =>
      have h2 : ks.length ≤ k := by simpa using hd
      have HE : Hid (ac = T) := Lib.hid (by rw [← HF.out, hd]; simp [taF, Rx.tellA])
      clear hd HF
      go_wp2
      go_end0
      exact ⟨rfl, by have h := hblr; rw [HE.out, ← HTT.out] at h; simpa [Rx.tell, taF] using h, hf0.trans hfrr⟩
    | cons y r =>
      obtain ⟨h2, h3, hr⟩ := ldrop_cons hd
      have hymem := List.mem_of_getElem? h3
      obtain ⟨yk, yc, yn, yr, yl, yh, yz, ys⟩ := y
      obtain ⟨b, o, ya, yrc, yka, ykc, rfl, hS, hbB, _, _, hyv, c0, c1, c2, c3, c4, c5, c6, c7⟩ := (HX.out.keep hkp).cells h3
      have Hr := Lib.hid hr
      have HYV := Lib.hid (hyv.keep (Kept.all ((Below.refl wr.heap.size wr).alloc (Nat.le_refl _) (.cells (rxc yk yc yn ya yr.length yrc yl yh yz yka ys.length ykc).toArray 25))))
      unfold rxc at HYV
      have HE : Hid (ac ++ ((if 0 < k then [124] else []) ++ (Rx.tell (.mk yk yc yn yr yl yh yz ys) ++ taF (k + 1) r)) = T) := Lib.hid (by rw [← HF.out, hd]; simp [taF, Rx.tellA])
      have HTA := Lib.hid (htr.keep ((Below.refl wr.heap.size wr).alloc (Nat.le_refl _) (.cells (rxc yk yc yn ya yr.length yrc yl yh yz yka ys.length ykc).toArray 25)))
      unfold rxc at HTA
      by_cases hk0 : 0 < k
      · have HE2 : Hid (ac ++ [124] ++ Rx.tell (.mk yk yc yn yr yl yh yz ys) ++ taF (k + 1) r = T) := Lib.hid (by rw [← HE.out, if_pos hk0]; simp)
        have hol : (ac ++ [124] ++ Rx.tell (.mk yk yc yn yr yl yh yz ys)).length ≤ 10000000 := by have h := congrArg List.length HE2.out; simp only [List.length_append] at h ⊢; omega
        clear hd HF hr h3 hyv htr
        go_wp2_with (go_at_call 36; refine (WriteByte_any B _ (ac) 124 _ (hblr.alloc _) (by first | omega | (simp only [List.length_append, List.length_cons, List.length_nil]; omega)) (by first | omega | (simp; omega)) (by decide) (by decide)).mono ?_)
        first | rintro e w1 rfl hbl1 hfr1 | rintro e w1 ⟨rfl, hbl1, hfr1⟩
        have hbx1 := hfr1.held (heap_alloc_new wr _) (by decide) (Nat.ne_of_gt hgl2)
        have z0 : w1.cell? ⟨wr.heap.size, 0, none⟩ = some (.int .i64 yk) := (by rw [Lib.cell_of_heap hbx1]; rfl); have z1 : w1.cell? ⟨wr.heap.size, 1, none⟩ = some (.string ⟨(yc).toArray⟩) := (by rw [Lib.cell_of_heap hbx1]; rfl); have z2 : w1.cell? ⟨wr.heap.size, 2, none⟩ = some (.bool yn) := (by rw [Lib.cell_of_heap hbx1]; rfl); have z3 : w1.cell? ⟨wr.heap.size, 3, none⟩ = some (.slice ya yr.length yrc) := (by rw [Lib.cell_of_heap hbx1]; rfl); have z4 : w1.cell? ⟨wr.heap.size, 4, none⟩ = some (.int .i64 yl) := (by rw [Lib.cell_of_heap hbx1]; rfl); have z5 : w1.cell? ⟨wr.heap.size, 5, none⟩ = some (.int .i64 yh) := (by rw [Lib.cell_of_heap hbx1]; rfl); have z6 : w1.cell? ⟨wr.heap.size, 6, none⟩ = some (.bool yz) := (by rw [Lib.cell_of_heap hbx1]; rfl); have z7 : w1.cell? ⟨wr.heap.size, 7, none⟩ = some (.slice yka ys.length ykc) := (by rw [Lib.cell_of_heap hbx1]; rfl)
        have hBA : B ≤ (wr.alloc (.cells (rxc yk yc yn ya yr.length yrc yl yh yz yka ys.length ykc).toArray 25)).heap.size := by simp; omega
        have hB1 : B ≤ w1.heap.size := Nat.le_trans hBA hfr1.size
        have HYV1 := Lib.hid (HYV.out.keep (Kept.fr hfr1 hBA hgB))
        have HTA1 := Lib.hid (HTA.out.keepB hgT (hfr1.below hBA (by simpa using hgB)))
        have hfx := hfrr.trans (((Fr.refl _ _ _ _).alloc _).trans hfr1)
        clear hbx1 hfr1
        go_wp2_with (go_at_call 22; refine ((IH.out _ hymem).at_ HYV1.out hbl1 hB1 HTA1.out rfl hol).mono ?_)
        first | rintro e w2 rfl hbl2 hfr2 | rintro e w2 ⟨rfl, hbl2, hfr2⟩
        go_wp2_with fail
        go_roundw
        case rel => exact ⟨k + 1, _, by omega, by go_num, hbl2, hfx.trans hfr2, Lib.hid (by rw [Hr.out]; exact HE2.out)⟩
        case measure => simp [intOf]; omega
      · have hk1 : k = 0 := by omega
        subst hk1
        have HE2 : Hid (ac ++ Rx.tell (.mk yk yc yn yr yl yh yz ys) ++ taF (0 + 1) r = T) := Lib.hid (by rw [← HE.out, if_neg hk0]; simp)
        have hol : (ac ++ Rx.tell (.mk yk yc yn yr yl yh yz ys)).length ≤ 10000000 := by have h := congrArg List.length HE2.out; simp only [List.length_append] at h ⊢; omega
        simp only [Nat.zero_mul, Nat.add_zero] at c0 c1 c2 c3 c4 c5 c6 c7
        clear hd HF hr h3 hyv htr hk0
        go_wp2_with (go_at_call 22; refine ((IH.out _ hymem).at_ HYV.out (hblr.alloc _) (by simp; omega) HTA.out rfl hol).mono ?_)
        first | rintro e w2 rfl hbl2 hfr2 | rintro e w2 ⟨rfl, hbl2, hfr2⟩
        go_wp2_with fail
        go_roundw
        case rel => exact ⟨0 + 1, _, by omega, by go_num, hbl2, hfrr.trans (((Fr.refl _ _ _ _).alloc _).trans hfr2), Lib.hid (by rw [Hr.out]; exact HE2.out)⟩
        case measure => simp [intOf]; omega
end Go.Proofs.YtpggnfpjjppbmaaDoor
