/- walk of the references: gimletref18.Show -/
import Derived.Test.YtlomkfennnmkdaaDoorU4
import Derived.Test.YtlomkfennnmkdaaDoorU5
import Derived.Test.YtlomkfennnmkdaaDoorS13
import Derived.Test.YtlomkfennnmkdaaDoorT17
import Derived.Test.YtlomkfennnmkdaaDoorExt
namespace Go.Proofs.YtlomkfennnmkdaaDoor
open Go.RowKit
theorem bel3 {W w0 w1 : World} (h : Below W.heap.size W w0) (h1 : Below w0.heap.size w0 w1) : Below W.heap.size W w1 := h.trans (h1.mono h.size)
theorem Digits_eq2 {n : Int} (w : World) (h0 : 0 ≤ n) (h1 : n ≤ 10000) :
    Calls Tryd.prog 23 #[.int .i64 n] w fun e w' => e = .returned (.string ⟨(dec n).toArray⟩) ∧ Below w.heap.size w w' := by
  obtain ⟨m, rfl⟩ := Int.eq_ofNat_of_zero_le h0
  exact Digits_any m w (by omega)
def SfRel (fs : List Fm) (m : Nat) (R : Str) (w : World) (s q : Value) (wr : World) : Prop :=
  ∃ (k : Nat) (acc : Str), k ≤ fs.length ∧ q = .int .i64 k ∧ s = .string ⟨(acc).toArray⟩ ∧ Below w.heap.size w wr ∧ Hid (acc.length ≤ k * m) ∧ Hid (acc ++ showF (fs.drop k) = R)
set_option maxRecDepth 100000 in
set_option maxHeartbeats 4000000 in
theorem rShow_any (a : Option Addr) (c m : Nat) (fs : List Fm) (w : World) (h : Sl w w.heap.size a 5 fs.length (fcells fs))
    (hf : ∀ f ∈ fs, f.thn.length ≤ m ∧ f.els.length ≤ m) (hm : m ≤ 10000) (hn : fs.length ≤ 1000) (hmay : mayFs fs = true) :
    Calls Tryd.prog 10 #[.slice a fs.length c] w fun e w' => e = .returned (.tuple #[.string ⟨(showF fs).toArray⟩, .int .i64 0]) ∧ Below w.heap.size w w' := by
  have HSl := Lib.hid h
  obtain ⟨R, hR⟩ : ∃ R, R = showF fs := ⟨_, rfl⟩
  rw [← hR]
  have HR := Lib.hid hR
  have HF := Lib.hid hf
  have HMY := Lib.hid hmay
  have HM := Lib.hid (mayL_all _ _ hmay)
  clear hR hf h hmay
  go_enter Tryd.func10, Tryd.ntmps10
  go_wp2_with (go_at_call 12; refine (rMay_any _ _ _ fs _ HSl.out (by omega)).mono ?_; rintro e w0 ⟨rfl, hb0⟩; rw [HMY.out])
  have hB0 := hb0.size
  go_loopw [4, 5] (fun s q wr => SfRel fs (4 * m + 20) R w s q wr) (fun _ q _ => fs.length - (intOf q).toNat)
  case atStart => exact ⟨0, [], by omega, rfl, rfl, hb0, Lib.hid (by simp), Lib.hid (by rw [HR.out]; rfl)⟩
  case round =>
    obtain ⟨k, acc, hk, rfl, rfl, hb, HL, HRR⟩ := hrel
    clear HR
    have hB := hb.size
    have hacc : acc.length ≤ 50000000 := Nat.le_trans HL.out (Nat.le_trans (Nat.mul_le_mul (show k ≤ 1000 by omega) (show 4 * m + 20 ≤ 40020 by omega)) (by decide))
    cases hd : fs.drop k with
    | nil =>
      have h2 : fs.length ≤ k := by simpa using hd
      have HE : Hid (acc = R) := Lib.hid (by rw [← HRR.out, hd]; simp [showF])
      clear hd HRR
      go_wp2
      go_ret2
      exact ⟨by rw [HE.out]; rfl, hb⟩
    | cons f r =>
      obtain ⟨h2, h3, hr⟩ := ldrop_cons hd
      have Hr := Lib.hid hr
      have hfm := List.mem_of_getElem? h3
      have hmf := HM.out f hfm
      obtain ⟨f1, f2⟩ := HF.out f hfm
      obtain ⟨n0, n1⟩ := mayF_n hmf
      have HRR2 : Hid (acc ++ (showP f ++ showF r) = R) := Lib.hid (by rw [← HRR.out, hd]; rfl)
      have HPL := Lib.hid (showP_len hmf f1 f2)
      have hkind := mayF_kind hmf
      obtain ⟨b, o, rfl, hbB, c0, c1, c2, c3, c4⟩ := (HSl.out.keep hb).fm h3
      obtain ⟨kind, fn, cse, thn, els⟩ := f
      replace f1 : thn.length ≤ m := f1
      replace f2 : els.length ≤ m := f2
      replace n0 : 0 ≤ fn := n0
      replace n1 : fn ≤ 9999 := n1
      have q1 := quot_len [36, 125, 92, 47, 58] thn
      have q2 := quot_len [36, 125, 92, 47, 58] els
      have q3 := quot_len [36, 125, 92, 47] thn
      have q4 := nameOf_length cse
      have q5 := dec_len n0 n1
      obtain ⟨wb, hwb⟩ : ∃ wb, wb = wr.alloc (.cells #[.int .i64 kind, .int .i64 fn, .int .i64 cse, .string ⟨(thn).toArray⟩, .string ⟨(els).toArray⟩] 41) := ⟨_, rfl⟩
      have hbb : Below wr.heap.size wr wb := by rw [hwb]; exact (Below.refl _ _).alloc (Nat.le_refl _) _
      have z0 : wb.cell? ⟨wr.heap.size, 0, none⟩ = some (.int .i64 kind) := by rw [hwb]; simp
      have z2 : wb.cell? ⟨wr.heap.size, 2, none⟩ = some (.int .i64 cse) := by rw [hwb]; simp
      have z3 : wb.cell? ⟨wr.heap.size, 3, none⟩ = some (.string ⟨(thn).toArray⟩) := by rw [hwb]; simp
      have z4 : wb.cell? ⟨wr.heap.size, 4, none⟩ = some (.string ⟨(els).toArray⟩) := by rw [hwb]; simp
      have Z0 := Lib.hid z0
      have Z2 := Lib.hid z2
      have Z3 := Lib.hid z3
      have Z4 := Lib.hid z4
      have HWB := Lib.hid hwb
      clear hd HRR hr h3 hfm hmf z0 z2 z3 z4 hwb
      go_wp2_with (go_at_call 23; refine (Digits_eq2 _ (by omega) (by omega)).mono ?_)
      first | rintro e w1 rfl hb1 | rintro e w1 ⟨rfl, hb1⟩
      rw [← HWB.out] at hb1
      replace hb1 : Below wb.heap.size wb w1 := hb1.mono (by rw [HWB.out]; simp)
      have y3 : ∀ x : ExtOf w1, x.val.cell? ⟨wr.heap.size, 3, none⟩ = some (.string ⟨(thn).toArray⟩) := ExtOf.cell (cell_kept hb1 _ _ Z3.out)
      have y4 : ∀ x : ExtOf w1, x.val.cell? ⟨wr.heap.size, 4, none⟩ = some (.string ⟨(els).toArray⟩) := ExtOf.cell (cell_kept hb1 _ _ Z4.out)
      have Y0 := Lib.hid (fun x : ExtOf w1 => ExtOf.cell (cell_kept hb1 _ _ Z0.out) x)
      have Y2 := Lib.hid (fun x : ExtOf w1 => ExtOf.cell (cell_kept hb1 _ _ Z2.out) x)
      have hbw1 : Below w.heap.size w w1 := bel3 (bel3 hb hbb) hb1
      clear hb1 hbb
      go_wp2
      refine wp_region_ext (by kernel_rfl) (by kernel_rfl) ?_
      repeat (go_big_quiet_step ((go_at_call 24; exact ext_call (Guard_any _ _ _ (by omega) (by decide) (by decide)))))
      refine wpQuiet_nil ?_
      rintro _ ⟨xq, rfl⟩
      have u0 := Y0.out xq
      have u2 := Y2.out xq
      have u3 := y3 xq
      have hbx : Below w.heap.size w xq.val := bel3 hbw1 xq.ext
      replace hkind : kind = 0 ∨ kind = 1 ∨ kind = 2 ∨ kind = 3 ∨ kind = 4 ∨ kind = 5 := hkind
      rcases hkind with rfl | rfl | rfl | rfl | rfl | rfl
      · go_wp2_with (go_at_call 24; refine (Guard_any _ _ _ (by omega) (by decide) (by decide)).mono ?_; rintro e w3 ⟨rfl, hb3⟩)
        go_roundw
        case rel =>
          refine ⟨k + 1, acc ++ showP ⟨0, fn, cse, thn, els⟩, by omega, by go_num, ?_, bel3 hbx hb3, Lib.hid ?_, Lib.hid ?_⟩
          · simp [showP, five, four]
          · have := HL.out; have h5 := HPL.out; rw [List.length_append]; rw [Nat.succ_mul]; omega
          · rw [Hr.out, List.append_assoc, ← HRR2.out]
        case measure => simp [intOf]; omega
      · go_wp2
        go_roundw
        case rel =>
          refine ⟨k + 1, acc ++ showP ⟨1, fn, cse, thn, els⟩, by omega, by go_num, ?_, hbx, Lib.hid ?_, Lib.hid ?_⟩
          · simp [showP, five, four]
          · have := HL.out; have h5 := HPL.out; rw [List.length_append]; rw [Nat.succ_mul]; omega
          · rw [Hr.out, List.append_assoc, ← HRR2.out]
        case measure => simp [intOf]; omega
      · go_wp2_with (go_at_call 25; refine (rName_any _ _).mono ?_; rintro e w3 ⟨rfl, rfl⟩)
        go_roundw
        case rel =>
          refine ⟨k + 1, acc ++ showP ⟨2, fn, cse, thn, els⟩, by omega, by go_num, ?_, hbx, Lib.hid ?_, Lib.hid ?_⟩
          · simp [showP, five, four]
          · have := HL.out; have h5 := HPL.out; rw [List.length_append]; rw [Nat.succ_mul]; omega
          · rw [Hr.out, List.append_assoc, ← HRR2.out]
        case measure => simp [intOf]; omega
      · go_wp2
        go_roundw
        case rel =>
          refine ⟨k + 1, acc ++ showP ⟨3, fn, cse, thn, els⟩, by omega, by go_num, ?_, hbx, Lib.hid ?_, Lib.hid ?_⟩
          · simp [showP, five, four]
          · have := HL.out; have h5 := HPL.out; rw [List.length_append]; rw [Nat.succ_mul]; omega
          · rw [Hr.out, List.append_assoc, ← HRR2.out]
        case measure => simp [intOf]; omega
      · go_wp2
        go_roundw
        case rel =>
          refine ⟨k + 1, acc ++ showP ⟨4, fn, cse, thn, els⟩, by omega, by go_num, ?_, hbx, Lib.hid ?_, Lib.hid ?_⟩
          · simp [showP, five, four]
          · have := HL.out; have h5 := HPL.out; rw [List.length_append]; rw [Nat.succ_mul]; omega
          · rw [Hr.out, List.append_assoc, ← HRR2.out]
        case measure => simp [intOf]; omega
      · go_wp2
        go_roundw
        case rel =>
          refine ⟨k + 1, acc ++ showP ⟨5, fn, cse, thn, els⟩, by omega, by go_num, ?_, hbx, Lib.hid ?_, Lib.hid ?_⟩
          · simp [showP, five, four]
          · have := HL.out; have h5 := HPL.out; rw [List.length_append]; rw [Nat.succ_mul]; omega
          · rw [Hr.out, List.append_assoc, ← HRR2.out]
        case measure => simp [intOf]; omega
theorem rShow_no (a : Option Addr) (n c : Nat) (fs : List Fm) (w : World) (h : Sl w w.heap.size a 5 n (fcells fs)) (hn : n ≤ 1000000) (hmay : mayFs fs = false) :
    Calls Tryd.prog 10 #[.slice a n c] w fun e w' => e = .returned (.tuple #[.string ⟨([]).toArray⟩, .int .i64 10]) ∧ Below w.heap.size w w' := by
  have HN := Lib.hid hmay
  have HSl := Lib.hid h
  clear hmay h
  go_enter Tryd.func10, Tryd.ntmps10
  go_wp2_with (go_at_call 12; refine (rMay_any _ _ _ fs _ HSl.out hn).mono ?_; rintro e w0 ⟨rfl, hb0⟩; rw [HN.out])
  go_ret2
  exact ⟨rfl, hb0⟩
end Go.Proofs.YtlomkfennnmkdaaDoor
