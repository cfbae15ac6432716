/- walks of the references: ref13.Parts, Deep -/
import Derived.Test.YtpggnfpjjppbmaaDoorR7
set_option maxRecDepth 100000
namespace Go.Proofs.YtpggnfpjjppbmaaDoor
open Go.RowKit
set_option maxHeartbeats 1000000 in
theorem RParts_any (S : Nat → Prop) : ∀ (N : Nat) (x : Rx), x.parts ≤ N → x.parts ≤ 1000000 → ∀ (cc : List Value) (w : World), RxV w S cc x →
    Calls Tryd.prog 41 #[.agg cc.toArray] w fun e w' => e = .returned (.int .i64 x.parts) ∧ Below w.heap.size w w'
  | 0, x, h, _, _, _, _ => by have := Rx.parts_pos x; omega
  | N + 1, .mk k c ng rs lo hi lz ks, h, hm, cc, w, hv => by
    obtain ⟨ra, rc, ka, kc, rfl, hrs, hx⟩ := hv.open_
    simp only [Rx.parts] at h hm
    have hlen := Rx.len_parts ks
    have hdl := deepL_parts ks
    have ih := fun (y : Rx) (hy : y.parts ≤ Rx.partsL ks) => RParts_any S N y (by omega) (by omega)
    have IH := Lib.hid ih
    obtain ⟨w0, hw0⟩ : ∃ w0, w0 = w.alloc (.cells #[.int .i64 k, .string ⟨(c).toArray⟩, .bool ng, .slice ra rs.length rc, .int .i64 lo, .int .i64 hi, .bool lz, .slice ka ks.length kc] 25) := ⟨_, rfl⟩
    have hb0 : Below w.heap.size w w0 := by rw [hw0]; exact (Below.refl _ _).alloc (Nat.le_refl _) _
    have HX := Lib.hid (hx.later hb0)
    have Z0 : Hid (w0.cell? ⟨w.heap.size, 0, none⟩ = some (.int .i64 k)) := Lib.hid (by rw [hw0]; simp)
    have Z7 : Hid (w0.cell? ⟨w.heap.size, 7, none⟩ = some (.slice ka ks.length kc)) := Lib.hid (by rw [hw0]; simp)
    clear hx hv hrs ih
    unfold rxc
    obtain ⟨R, hR⟩ : ∃ R, (Rx.mk k c ng rs lo hi lz ks).parts = R := ⟨_, rfl⟩
    have hR6 : R ≤ 1000000 := by rw [← hR]; simp only [Rx.parts]; omega
    have HR0 : Hid (1 + Rx.partsL (ks.drop 0) = R) := Lib.hid hR
    rw [hR]
    clear hR
    go_enter Tryd.func41, Tryd.ntmps41
    go_wp2
    rw [← hw0]
    clear hw0
    go_loopw [3, 4] (fun t q wr => SumRel ks Rx.partsL (· + ·) R w0 t q wr) (fun _ q _ => ks.length - (intOf q).toNat)
    case atStart => exact ⟨0, 1, by omega, rfl, rfl, by omega, Below.refl _ _, HR0⟩
    case round =>
      obtain ⟨i, d, hi, rfl, rfl, hd9, hb, HF⟩ := hrel
      clear HR0
      have hB := hb.size
      have z7 := cell_kept hb _ _ Z7.out
      cases hd : ks.drop i with
      | nil =>
        have h2 : ks.length ≤ i := by simpa using hd
        have HE : Hid (d = R) := Lib.hid (by rw [← HF.out, hd]; simp [Rx.partsL])
        clear hd HF
        have hbb := hb0.trans (hb.mono hb0.size)
        go_wp2
        go_ret
        exact ⟨ret_int (by have := HE.out; omega), hbb⟩
      | cons y r =>
        obtain ⟨h2, h3, hr⟩ := ldrop_cons hd
        obtain ⟨yk, yc, yn, yr, yl, yh, yz, ys⟩ := y
        obtain ⟨b, o, ya, yrc, yka, ykc, rfl, hS, hbB, _, _, hyv, c0, c1, c2, c3, c4, c5, c6, c7⟩ := (HX.out.later hb).cells h3
        have hyp := Rx.parts_mem (List.mem_of_getElem? h3)
        have Hr := Lib.hid hr
        have HYV := Lib.hid hyv
        unfold rxc at HYV
        have HE : Hid (d + (Rx.parts (.mk yk yc yn yr yl yh yz ys) + Rx.partsL r) = R) := Lib.hid (by rw [← HF.out, hd]; rfl)
        have hle : d + Rx.parts (.mk yk yc yn yr yl yh yz ys) ≤ 1000000 := by have := HE.out; omega
        clear hd HF hr h3 hyv
        go_wp2_with (go_at_call 41; refine (IH.out _ hyp _ _ HYV.out).mono ?_; rintro e w1 ⟨rfl, hb1⟩)
        go_roundw
        case rel => exact ⟨i + 1, d + Rx.parts (.mk yk yc yn yr yl yh yz ys), by omega, by go_num, by go_num, by omega, hb.trans (hb1.mono hB), Lib.hid (by rw [Hr.out]; have h := HE.out; show d + Rx.parts (.mk yk yc yn yr yl yh yz ys) + Rx.partsL r = R; omega)⟩
        case measure => simp [intOf]; omega
set_option maxHeartbeats 1000000 in
theorem RDeep_any (S : Nat → Prop) : ∀ (N : Nat) (x : Rx), x.parts ≤ N → x.parts ≤ 1000000 → ∀ (cc : List Value) (w : World), RxV w S cc x →
    Calls Tryd.prog 42 #[.agg cc.toArray] w fun e w' => e = .returned (.int .i64 x.deep) ∧ Below w.heap.size w w'
  | 0, x, h, _, _, _, _ => by have := Rx.parts_pos x; omega
  | N + 1, .mk k c ng rs lo hi lz ks, h, hm, cc, w, hv => by
    obtain ⟨ra, rc, ka, kc, rfl, hrs, hx⟩ := hv.open_
    simp only [Rx.parts] at h hm
    have hlen := Rx.len_parts ks
    have hdl := deepL_parts ks
    have ih := fun (y : Rx) (hy : y.parts ≤ Rx.partsL ks) => RDeep_any S N y (by omega) (by omega)
    have IH := Lib.hid ih
    obtain ⟨w0, hw0⟩ : ∃ w0, w0 = w.alloc (.cells #[.int .i64 k, .string ⟨(c).toArray⟩, .bool ng, .slice ra rs.length rc, .int .i64 lo, .int .i64 hi, .bool lz, .slice ka ks.length kc] 25) := ⟨_, rfl⟩
    have hb0 : Below w.heap.size w w0 := by rw [hw0]; exact (Below.refl _ _).alloc (Nat.le_refl _) _
    have HX := Lib.hid (hx.later hb0)
    have Z0 : Hid (w0.cell? ⟨w.heap.size, 0, none⟩ = some (.int .i64 k)) := Lib.hid (by rw [hw0]; simp)
    have Z7 : Hid (w0.cell? ⟨w.heap.size, 7, none⟩ = some (.slice ka ks.length kc)) := Lib.hid (by rw [hw0]; simp)
    clear hx hv hrs ih
    unfold rxc
    obtain ⟨R, hR⟩ : ∃ R, Rx.deepL ks = R := ⟨_, rfl⟩
    have HR0 : Hid (max 0 (Rx.deepL (ks.drop 0)) = R) := Lib.hid (by simpa using hR)
    have HD : Hid ((Rx.mk k c ng rs lo hi lz ks).deep = R + if k = 5 ∨ k = 6 then 1 else 0) := Lib.hid (by rw [← hR]; rfl)
    have hR6 : R ≤ 1000000 := by omega
    rw [HD.out]
    clear hR hdl
    go_enter Tryd.func42, Tryd.ntmps42
    go_wp2
    rw [← hw0]
    clear hw0
    go_loopw [3, 4] (fun t q wr => SumRel ks Rx.deepL max R w0 t q wr) (fun _ q _ => ks.length - (intOf q).toNat)
    case atStart => exact ⟨0, 0, by omega, rfl, rfl, by omega, Below.refl _ _, HR0⟩
    case round =>
      obtain ⟨i, d, hi, rfl, rfl, hd9, hb, HF⟩ := hrel
      clear HR0
      have hB := hb.size
      have z7 := cell_kept hb _ _ Z7.out
      cases hd : ks.drop i with
      | nil =>
        have h2 : ks.length ≤ i := by simpa using hd
        have HE : Hid (d = R) := Lib.hid (by rw [← HF.out, hd]; simp [Rx.deepL])
        have z0 := cell_kept hb _ _ Z0.out
        clear hd HF
        have hbb := hb0.trans (hb.mono hb0.size)
        by_cases h5 : k = 5
        · subst h5
          go_wp2
          go_ret
          exact ⟨ret_int (by have := HE.out; simp; omega), hbb⟩
        by_cases h6 : k = 6
        · subst h6
          go_wp2
          go_ret
          exact ⟨ret_int (by have := HE.out; simp; omega), hbb⟩
        · have e5 : (k == 5) = false := by simpa using h5
          have e6 : (k == 6) = false := by simpa using h6
          have H56 : Hid (¬ (k = 5 ∨ k = 6)) := Lib.hid (by omega)
          clear h5 h6
          go_wp2
          go_ret
          exact ⟨ret_int (by have := HE.out; omega), hbb⟩
      | cons y r =>
        obtain ⟨h2, h3, hr⟩ := ldrop_cons hd
        obtain ⟨yk, yc, yn, yr, yl, yh, yz, ys⟩ := y
        obtain ⟨b, o, ya, yrc, yka, ykc, rfl, hS, hbB, _, _, hyv, c0, c1, c2, c3, c4, c5, c6, c7⟩ := (HX.out.later hb).cells h3
        have hyp := Rx.parts_mem (List.mem_of_getElem? h3)
        have Hr := Lib.hid hr
        have HYV := Lib.hid hyv
        unfold rxc at HYV
        have HE : Hid (max d (max (Rx.deep (.mk yk yc yn yr yl yh yz ys)) (Rx.deepL r)) = R) := Lib.hid (by rw [← HF.out, hd]; rfl)
        have hyd := Rx.deep_parts (.mk yk yc yn yr yl yh yz ys)
        clear hd HF hr h3 hyv
        go_wp2_with (go_at_call 42; refine (IH.out _ hyp _ _ HYV.out).mono ?_; rintro e w1 ⟨rfl, hb1⟩)
        go_roundw
        case rel => exact ⟨i + 1, max d (Rx.deep (.mk yk yc yn yr yl yh yz ys)), by omega, by go_num, by simp; split <;> omega, by omega, hb.trans (hb1.mono hB), Lib.hid (by rw [Hr.out, ← HE.out]; omega)⟩
        case measure => simp [intOf]; omega
end Go.Proofs.YtpggnfpjjppbmaaDoor
