/- walks of rxtree: Deep, Groups, Parts -/
import Derived.Test.YtpggnfpjjppbmaaDoorR6
set_option maxRecDepth 100000
namespace Go.Proofs.YtpggnfpjjppbmaaDoor
open Go.RowKit
theorem partsL_drop : ∀ (ks : List Rx) (k : Nat), Rx.partsL (ks.drop k) ≤ Rx.partsL ks
  | [], k => by simp
  | x :: r, 0 => by simp
  | x :: r, k + 1 => by have := partsL_drop r k; simp only [List.drop_succ_cons, Rx.partsL]; omega
theorem deepL_parts (ks : List Rx) : Rx.deepL ks ≤ Rx.partsL ks := by
  induction ks with
  | nil => simp [Rx.deepL]
  | cons x r ih => have := Rx.deep_parts x; simp only [Rx.deepL, Rx.partsL]; omega
theorem groupsL_parts (ks : List Rx) : Rx.groupsL ks ≤ Rx.partsL ks := by
  induction ks with
  | nil => simp [Rx.groupsL]
  | cons x r ih => have := Rx.groups_parts x; simp only [Rx.groupsL, Rx.partsL]; omega
def SumRel (ks : List Rx) (f : List Rx → Nat) (op : Nat → Nat → Nat) (R : Nat) (w : World) (t q : Value) (wr : World) : Prop :=
  ∃ (k d : Nat), k ≤ ks.length ∧ q = .int .i64 k ∧ t = .int .i64 d ∧ d ≤ 100000000 ∧ Below w.heap.size w wr ∧ Hid (op d (f (ks.drop k)) = R)
set_option maxHeartbeats 1000000 in
theorem Deep_any (S : Nat → Prop) : ∀ (N : Nat) (x : Rx), x.parts ≤ N → x.parts ≤ 1000000 → ∀ (cc : List Value) (w : World), RxV w S cc x →
    Calls Tryd.prog 16 #[.agg cc.toArray] w fun e w' => e = .returned (.int .i64 x.deep) ∧ Below w.heap.size w w'
  | 0, x, h, _, _, _, _ => by have := Rx.parts_pos x; omega
  | N + 1, .mk k c ng rs lo hi lz ks, h, hm, cc, w, hv => by
    obtain ⟨ra, rc, ka, kc, rfl, hrs, hx⟩ := hv.open_
    simp only [Rx.parts] at h hm
    have hlen := Rx.len_parts ks
    have hdl := deepL_parts ks
    have ih := fun (y : Rx) (hy : y.parts ≤ Rx.partsL ks) => Deep_any S N y (by omega) (by omega)
    have IH := Lib.hid ih
    have HX := Lib.hid (hx.later ((Below.refl w.heap.size w).alloc (Nat.le_refl _) (.cells #[.int .i64 k, .string ⟨(c).toArray⟩, .bool ng, .slice ra rs.length rc, .int .i64 lo, .int .i64 hi, .bool lz, .slice ka ks.length kc] 25)))
    obtain ⟨w0, hw0⟩ : ∃ w0, w0 = w.alloc (.cells #[.int .i64 k, .string ⟨(c).toArray⟩, .bool ng, .slice ra rs.length rc, .int .i64 lo, .int .i64 hi, .bool lz, .slice ka ks.length kc] 25) := ⟨_, rfl⟩
    have hb0 : Below w.heap.size w w0 := by rw [hw0]; exact (Below.refl _ _).alloc (Nat.le_refl _) _
    have z0 : w0.cell? ⟨w.heap.size, 0, none⟩ = some (.int .i64 k) := by rw [hw0]; simp
    rw [← hw0] at HX
    obtain ⟨R, hR⟩ : ∃ R, Rx.deepL ks = R := ⟨_, rfl⟩
    have HR0 : Hid (max 0 (Rx.deepL (ks.drop 0)) = R) := Lib.hid (by simpa using hR)
    have HD : Hid ((Rx.mk k c ng rs lo hi lz ks).deep = R + if k = 5 ∨ k = 6 then 1 else 0) := Lib.hid (by rw [← hR]; rfl)
    have hR6 : R ≤ 1000000 := by omega
    rw [HD.out]
    clear hR hx hv hrs ih hdl
    unfold rxc
    go_enter Tryd.func16, Tryd.ntmps16
    go_wp2
    rw [← hw0]
    have HW0 := Lib.hid hw0
    have Z0 := Lib.hid z0
    clear hw0 z0
    go_loopw [3, 9] (fun t q wr => SumRel ks Rx.deepL max R w0 t q wr) (fun _ q _ => ks.length - (intOf q).toNat)
    case atStart => exact ⟨0, 0, by omega, rfl, rfl, by omega, Below.refl _ _, HR0⟩
    case round =>
      obtain ⟨i, d, hi, rfl, rfl, hd9, hb, HF⟩ := hrel
      clear HR0
      have hB := hb.size
      cases hd : ks.drop i with
      | nil =>
        have h2 : ks.length ≤ i := by simpa using hd
        have HE : Hid (d = R) := Lib.hid (by rw [← HF.out, hd]; simp [Rx.deepL])
        have z1 : wr.cell? ⟨w.heap.size, 0, none⟩ = some (.int .i64 k) := cell_kept hb _ _ Z0.out
        clear hd HF
        have hbb := hb0.trans (hb.mono hb0.size)
        by_cases hg : k = 5 ∨ k = 6
        · have hg2 : grpB k = true := by simp [grpB, hg]
          have HG := Lib.hid hg
          clear hg
          go_wp2_with (go_at_call 28; refine (group_any _ _).mono ?_; rintro e w1 ⟨rfl, rfl⟩; rw [hg2])
          go_ret
          exact ⟨ret_int (by have := HE.out; omega), hbb⟩
        · have hg2 : grpB k = false := by simp [grpB, hg]
          have HG := Lib.hid hg
          clear hg
          go_wp2_with (go_at_call 28; refine (group_any _ _).mono ?_; rintro e w1 ⟨rfl, rfl⟩; rw [hg2])
          go_ret
          exact ⟨ret_int (by have := HE.out; omega), hbb⟩
      | cons y r =>
        obtain ⟨h2, h3, hr⟩ := ldrop_cons hd
        obtain ⟨yk, yc, yn, yr, yl, yh, yz, ys⟩ := y
        obtain ⟨b, o, ya, yrc, yka, ykc, rfl, hS, hbB, _, _, hyv, c0, c1, c2, c3, c4, c5, c6, c7⟩ := (HX.out.later hb).cells h3
        have hyp := Rx.parts_mem (List.mem_of_getElem? h3)
        have Hr := Lib.hid hr
        have HE : Hid (max d (max (Rx.deep (.mk yk yc yn yr yl yh yz ys)) (Rx.deepL r)) = R) := Lib.hid (by rw [← HF.out, hd]; rfl)
        have hyd := Rx.deep_parts (.mk yk yc yn yr yl yh yz ys)
        have HYV := Lib.hid (hyv.later ((Below.refl wr.heap.size wr).alloc (Nat.le_refl _) (.cells (rxc yk yc yn ya yr.length yrc yl yh yz yka ys.length ykc).toArray 25)))
        unfold rxc at HYV
        clear hd HF hr h3 hyv
        go_wp2_with (go_at_call 16; refine (IH.out _ hyp _ _ HYV.out).mono ?_; rintro e w1 ⟨rfl, hb1⟩)
        go_roundw
        case rel => exact ⟨i + 1, max d (Rx.deep (.mk yk yc yn yr yl yh yz ys)), by omega, by go_num, by simp; split <;> omega, by omega, (hb.alloc hB _).trans (hb1.mono (by simp; omega)), Lib.hid (by rw [Hr.out, ← HE.out]; omega)⟩
        case measure => simp [intOf]; omega
set_option maxHeartbeats 1000000 in
theorem Groups_any (S : Nat → Prop) : ∀ (N : Nat) (x : Rx), x.parts ≤ N → x.parts ≤ 1000000 → ∀ (cc : List Value) (w : World), RxV w S cc x →
    Calls Tryd.prog 20 #[.agg cc.toArray] w fun e w' => e = .returned (.int .i64 x.groups) ∧ Below w.heap.size w w'
  | 0, x, h, _, _, _, _ => by have := Rx.parts_pos x; omega
  | N + 1, .mk k c ng rs lo hi lz ks, h, hm, cc, w, hv => by
    obtain ⟨ra, rc, ka, kc, rfl, hrs, hx⟩ := hv.open_
    simp only [Rx.parts] at h hm
    have hlen := Rx.len_parts ks
    have hdl := groupsL_parts ks
    have ih := fun (y : Rx) (hy : y.parts ≤ Rx.partsL ks) => Groups_any S N y (by omega) (by omega)
    have IH := Lib.hid ih
    have HX := Lib.hid (hx.later ((Below.refl w.heap.size w).alloc (Nat.le_refl _) (.cells #[.int .i64 k, .string ⟨(c).toArray⟩, .bool ng, .slice ra rs.length rc, .int .i64 lo, .int .i64 hi, .bool lz, .slice ka ks.length kc] 25)))
    obtain ⟨w0, hw0⟩ : ∃ w0, w0 = w.alloc (.cells #[.int .i64 k, .string ⟨(c).toArray⟩, .bool ng, .slice ra rs.length rc, .int .i64 lo, .int .i64 hi, .bool lz, .slice ka ks.length kc] 25) := ⟨_, rfl⟩
    have hb0 : Below w.heap.size w w0 := by rw [hw0]; exact (Below.refl _ _).alloc (Nat.le_refl _) _
    have z0 : w0.cell? ⟨w.heap.size, 0, none⟩ = some (.int .i64 k) := by rw [hw0]; simp
    rw [← hw0] at HX
    obtain ⟨R, hR⟩ : ∃ R, (Rx.mk k c ng rs lo hi lz ks).groups = R := ⟨_, rfl⟩
    have hR6 : R ≤ 1000000 := by have := Rx.groups_parts (.mk k c ng rs lo hi lz ks); simp only [Rx.parts] at this; omega
    have HR1 : Hid ((if k = 5 then 1 else 0) + Rx.groupsL (ks.drop 0) = R) := Lib.hid hR
    rw [hR]
    clear hR hx hv hrs ih hdl
    unfold rxc
    by_cases hk5 : k = 5
    · have HR0 : Hid (1 + Rx.groupsL (ks.drop 0) = R) := Lib.hid (by rw [← HR1.out, if_pos hk5])
      have e5 : (k == 5) = true := by simpa using hk5
      clear hk5 HR1
      go_enter Tryd.func20, Tryd.ntmps20
      go_wp2
      rw [← hw0]
      clear hw0 z0
      go_loopw [3, 12] (fun t q wr => SumRel ks Rx.groupsL (· + ·) R w0 t q wr) (fun _ q _ => ks.length - (intOf q).toNat)
      case atStart => exact ⟨0, 1, by omega, rfl, rfl, by omega, Below.refl _ _, HR0⟩
      case round =>
        obtain ⟨i, d, hi, rfl, rfl, hd9, hb, HF⟩ := hrel
        clear HR0
        have hB := hb.size
        cases hd : ks.drop i with
        | nil =>
          have h2 : ks.length ≤ i := by simpa using hd
          have HE : Hid (d = R) := Lib.hid (by rw [← HF.out, hd]; simp [Rx.groupsL])
          clear hd HF
          have hbb := hb0.trans (hb.mono hb0.size)
          go_wp2
          go_ret
          exact ⟨ret_int (by have := HE.out; omega), hbb⟩
        | cons y r =>
          obtain ⟨h2, h3, hr⟩ := ldrop_cons hd
          obtain ⟨yk, yc, yn, yr, yl, yh, yz, ys⟩ := y
          obtain ⟨b, o, ya, yrc, yka, ykc, rfl, hS, hbB, _, _, hyv, c0, c1, c2, c3, c4, c5, c6, c7⟩ := (HX.out.later hb).cells h3
          have hyp := Rx.parts_mem (List.mem_of_getElem? h3)
          have Hr := Lib.hid hr
          have HE : Hid (d + (Rx.groups (.mk yk yc yn yr yl yh yz ys) + Rx.groupsL r) = R) := Lib.hid (by rw [← HF.out, hd]; rfl)
          have hle : d + Rx.groups (.mk yk yc yn yr yl yh yz ys) ≤ 1000000 := by have := HE.out; omega
          have HYV := Lib.hid (hyv.later ((Below.refl wr.heap.size wr).alloc (Nat.le_refl _) (.cells (rxc yk yc yn ya yr.length yrc yl yh yz yka ys.length ykc).toArray 25)))
          unfold rxc at HYV
          clear hd HF hr h3 hyv
          go_wp2_with (go_at_call 20; refine (IH.out _ hyp _ _ HYV.out).mono ?_; rintro e w1 ⟨rfl, hb1⟩)
          go_roundw
          case rel => exact ⟨i + 1, d + Rx.groups (.mk yk yc yn yr yl yh yz ys), by omega, by go_num, by go_num, by omega, (hb.alloc hB _).trans (hb1.mono (by simp; omega)), Lib.hid (by rw [Hr.out]; have h := HE.out; show d + Rx.groups (.mk yk yc yn yr yl yh yz ys) + Rx.groupsL r = R; omega)⟩
          case measure => simp [intOf]; omega
    · have HR0 : Hid (0 + Rx.groupsL (ks.drop 0) = R) := Lib.hid (by rw [← HR1.out, if_neg hk5])
      have e5 : (k == 5) = false := by simpa using hk5
      clear hk5 HR1
      go_enter Tryd.func20, Tryd.ntmps20
      go_wp2
      rw [← hw0]
      clear hw0 z0
      go_loopw [3, 12] (fun t q wr => SumRel ks Rx.groupsL (· + ·) R w0 t q wr) (fun _ q _ => ks.length - (intOf q).toNat)
      case atStart => exact ⟨0, 0, by omega, rfl, rfl, by omega, Below.refl _ _, HR0⟩
      case round =>
        obtain ⟨i, d, hi, rfl, rfl, hd9, hb, HF⟩ := hrel
        clear HR0
        have hB := hb.size
        cases hd : ks.drop i with
        | nil =>
          have h2 : ks.length ≤ i := by simpa using hd
          have HE : Hid (d = R) := Lib.hid (by rw [← HF.out, hd]; simp [Rx.groupsL])
          clear hd HF
          have hbb := hb0.trans (hb.mono hb0.size)
          go_wp2
          go_ret
          exact ⟨ret_int (by have := HE.out; omega), hbb⟩
        | cons y r =>
          obtain ⟨h2, h3, hr⟩ := ldrop_cons hd
          obtain ⟨yk, yc, yn, yr, yl, yh, yz, ys⟩ := y
          obtain ⟨b, o, ya, yrc, yka, ykc, rfl, hS, hbB, _, _, hyv, c0, c1, c2, c3, c4, c5, c6, c7⟩ := (HX.out.later hb).cells h3
          have hyp := Rx.parts_mem (List.mem_of_getElem? h3)
          have Hr := Lib.hid hr
          have HE : Hid (d + (Rx.groups (.mk yk yc yn yr yl yh yz ys) + Rx.groupsL r) = R) := Lib.hid (by rw [← HF.out, hd]; rfl)
          have hle : d + Rx.groups (.mk yk yc yn yr yl yh yz ys) ≤ 1000000 := by have := HE.out; omega
          have HYV := Lib.hid (hyv.later ((Below.refl wr.heap.size wr).alloc (Nat.le_refl _) (.cells (rxc yk yc yn ya yr.length yrc yl yh yz yka ys.length ykc).toArray 25)))
          unfold rxc at HYV
          clear hd HF hr h3 hyv
          go_wp2_with (go_at_call 20; refine (IH.out _ hyp _ _ HYV.out).mono ?_; rintro e w1 ⟨rfl, hb1⟩)
          go_roundw
          case rel => exact ⟨i + 1, d + Rx.groups (.mk yk yc yn yr yl yh yz ys), by omega, by go_num, by go_num, by omega, (hb.alloc hB _).trans (hb1.mono (by simp; omega)), Lib.hid (by rw [Hr.out]; have h := HE.out; show d + Rx.groups (.mk yk yc yn yr yl yh yz ys) + Rx.groupsL r = R; omega)⟩
          case measure => simp [intOf]; omega
end Go.Proofs.YtpggnfpjjppbmaaDoor
