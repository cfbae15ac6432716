/- walk of fmts.Show -/
import Derived.Test.YtlomkfennnmkdaaDoorT16
import Derived.Test.YtlomkfennnmkdaaDoorItoa
import Derived.Test.YtlomkfennnmkdaaDoorT7
import Derived.Test.YtlomkfennnmkdaaDoorApM
import Derived.Deep.RegionHeld3
import Derived.Deep.DrawnRows
namespace Go.Proofs.YtlomkfennnmkdaaDoor
open Go.RowKit
attribute [local go_sem ↓] Go.wp_at_zero Go.wp_at_succ
theorem quoted_kept (l th : Str) (w : World) (hs : l.length ≤ 1000000) :
    Calls Tryd.prog 19 #[.string ⟨(l).toArray⟩, .string ⟨(th).toArray⟩] w fun e w' => e = .returned (.string ⟨(quot th l).toArray⟩) ∧ Below w.heap.size w w' ∧ ∀ a u, w.cell? a = some u → w'.cell? a = some u :=
  (quoted_any l th w hs).mono fun _ _ ⟨h1, h2⟩ => ⟨h1, h2, cell_kept h2⟩
def ShRel (fs : List Fm) (g m : Nat) (w : World) (R : Str) (q : Value) (wr : World) : Prop :=
  ∃ (k : Nat) (acc : Str), k ≤ fs.length ∧ q = .int .i64 k ∧ Bld w.heap.size g acc wr ∧ Below w.heap.size w wr ∧ Hid (acc.length ≤ k * m) ∧ Hid (acc ++ showF (fs.drop k) = R)
theorem showP_len {f : Fm} {m : Nat} (hm : mayF f = true) (h1 : f.thn.length ≤ m) (h2 : f.els.length ≤ m) : (showP f).length ≤ 4 * m + 20 := by
  obtain ⟨n0, n1⟩ := mayF_n hm
  have h3 := dec_len n0 n1
  have h4 := quot_len five f.thn
  have h5 := quot_len five f.els
  have h6 := quot_len four f.thn
  have h7 := nameOf_length f.cse
  unfold showP
  (repeat' split) <;> simp <;> omega
set_option maxRecDepth 100000 in
set_option maxHeartbeats 4000000 in
theorem Show_any (a : Option Addr) (c m : Nat) (fs : List Fm) (w : World) (h : Sl w w.heap.size a 5 fs.length (fcells fs)) (ht : Tab w)
    (hf : ∀ f ∈ fs, f.thn.length ≤ m ∧ f.els.length ≤ m) (hm : m ≤ 10000) (hn : fs.length ≤ 1000) (hmay : mayFs fs = true) :
    Calls Tryd.prog 9 #[.slice a fs.length c] w fun e w' => e = .returned (.tuple #[.string ⟨(showF fs).toArray⟩, .int .i64 0]) ∧ Below w.heap.size w w' := by
  have HSl := Lib.hid h
  have HT := Lib.hid ht
  obtain ⟨R, hR⟩ : ∃ R, R = showF fs := ⟨_, rfl⟩
  rw [← hR]
  have HR := Lib.hid hR
  have HF := Lib.hid hf
  have HM := Lib.hid (mayL_all _ _ hmay)
  clear hR hf h ht
  go_enter Tryd.func9, Tryd.ntmps9
  go_wp2_with (go_at_call 11; refine (May_any _ _ _ fs _ HSl.out (by omega)).mono ?_; rintro e w0 ⟨rfl, hb0⟩)
  have hB0 := hb0.size
  go_loopw [15] (fun q wr => ShRel fs w0.heap.size (4 * m + 20) w R q wr) (fun q _ => fs.length - (intOf q).toNat)
  case atStart => exact ⟨0, [], by omega, rfl, Bld.fresh _ _ hB0, hb0.alloc hB0 _, Lib.hid (by simp), Lib.hid (by rw [HR.out]; rfl)⟩
  case round =>
    obtain ⟨k, acc, hk, rfl, hbl, hb, HL, HRR⟩ := hrel
    clear HR
    have hB := hb.size
    have hacc : acc.length ≤ 50000000 := Nat.le_trans HL.out (Nat.le_trans (Nat.mul_le_mul (show k ≤ 1000 by omega) (show 4 * m + 20 ≤ 40020 by omega)) (by decide))
    cases hd : fs.drop k with
    | nil =>
      have h2 : fs.length ≤ k := by simpa using hd
      have HR : Hid (R = acc) := Lib.hid (by rw [← HRR.out, hd]; simp [showF])
      clear hd HRR
      go_wp2_with (go_at_call 22; refine (String_any _ _ _ _ hbl hB).mono ?_; rintro e w1 ⟨rfl, hb1⟩)
      go_ret2
      exact ⟨by rw [HR.out]; rfl, hb.trans hb1⟩
    | cons f r =>
      obtain ⟨h2, h3, hr⟩ := ldrop_cons hd
      have HR : Hid (R = acc ++ (showP f ++ showF r)) := Lib.hid (by rw [← HRR.out, hd]; simp [showF])
      have Hr := Lib.hid hr
      have hmem := List.mem_of_getElem? h3
      have hmf := HM.out f hmem
      obtain ⟨b, o, rfl, hbB, c0, c1, c2, c3, c4⟩ := (HSl.out.keep hb).fm h3
      obtain ⟨z1, z2⟩ := HF.out f hmem
      have HPL := Lib.hid (showP_len hmf z1 z2)
      obtain ⟨n0, n1⟩ := mayF_n hmf
      have hkind := mayF_kind hmf
      clear hd HRR hr h3 hmem hmf
      obtain ⟨kind, fn, cse, thn, els⟩ := f
      replace z1 : thn.length ≤ m := z1
      replace z2 : els.length ≤ m := z2
      replace n0 : 0 ≤ fn := n0
      replace n1 : fn ≤ 9999 := n1
      obtain ⟨d0, d1⟩ := dec_len n0 n1
      have HKI := Lib.hid hkind
      clear hkind
      have htw : Tab (wr.alloc (.cells #[.int .i64 kind, .int .i64 fn, .int .i64 cse, .string ⟨(thn).toArray⟩, .string ⟨(els).toArray⟩] 41)) := HT.out.keep ((hb.mono (Nat.le_refl _)).alloc hB _)
      have HTW := Lib.hid htw
      clear htw
      go_wp2_with (go_at_call 18; refine (Itoa_any fn _ n0 (by omega) HTW.out).mono ?_)
      first | rintro e w1 rfl hb1 | rintro e w1 ⟨rfl, hb1⟩
      have z0 : w1.cell? ⟨wr.heap.size, 0, none⟩ = some (.int .i64 kind) := cell_kept2 hb1 (by simp) (by simp)
      have z3 : w1.cell? ⟨wr.heap.size, 2, none⟩ = some (.int .i64 cse) := cell_kept2 hb1 (by simp) (by simp)
      have z4 : w1.cell? ⟨wr.heap.size, 3, none⟩ = some (.string ⟨(thn).toArray⟩) := cell_kept2 hb1 (by simp) (by simp)
      have z5 : w1.cell? ⟨wr.heap.size, 4, none⟩ = some (.string ⟨(els).toArray⟩) := cell_kept2 hb1 (by simp) (by simp)
      go_wp2
      go_region_held3 (fun w' => w'.cell? ⟨wr.heap.size, 0, none⟩ = some (.int .i64 kind) ∧ w'.cell? ⟨wr.heap.size, 2, none⟩ = some (.int .i64 cse) ∧ w'.cell? ⟨wr.heap.size, 3, none⟩ = some (.string ⟨(thn).toArray⟩) ∧ w'.cell? ⟨wr.heap.size, 4, none⟩ = some (.string ⟨(els).toArray⟩)) (go_keep)
        (first | (go_at_call 19; refine (quoted_kept _ _ _ (by omega)).mono ?_; rintro e w2 ⟨rfl, hb2, hc2⟩))
      rename_i wa hba hca hheld
      obtain ⟨y0, y2, y3, y4⟩ := hheld
      have hbl1 : Bld w.heap.size w0.heap.size acc w1 := (hbl.alloc _).below (hb1.mono (by simp))
      have hbl2 : Bld w.heap.size w0.heap.size acc w2 := (Bld.below (w := w1.drew) hbl1 hba).below hb2
      have hbw1 : Below w.heap.size w w1 := (hb.alloc hB _).trans (hb1.mono (by omega))
      have hz1 := hbw1.size
      have hbwa : Below w.heap.size w wa := (hbw1.drew).trans (hba.mono hz1)
      have hza := hbwa.size
      have hbw2 : Below w.heap.size w w2 := hbwa.trans (hb2.mono hza)
      have hz2 := hbw2.size
      have hg2 := hbl2.le
      have HC := Lib.hid hca; have HC2 := Lib.hid hc2
      clear hca hc2 hbl1 hba hb2 hb1 z0 z3 z4 z5 c0 c1 c2 c3 c4
      have hkind := HKI.out
      have q4 := quot_len [36, 125, 92, 47] thn
      have q5 := quot_len [36, 125, 92, 47, 58] thn
      have q6 := quot_len [36, 125, 92, 47, 58] els
      have q7 := nameOf_length cse
      rcases hkind with hkind | hkind | hkind | hkind | hkind | hkind
      · subst hkind
        go_wp2_with (first | (go_at_call 19; refine (quoted_any _ _ _ (by omega)).mono ?_; rintro e w3 ⟨rfl, hb3⟩; have hbl3 := hbl2.below hb3; have hz3 := hb3.size) | (go_at_call 21; refine (Name_any _ _).mono ?_; rintro e w3 ⟨rfl, hb3⟩; have hbl3 := hbl2.below hb3; have hz3 := hb3.size) | (go_at_call 20; refine (WriteString_any w.heap.size _ acc _ _ (by first | exact hbl3 | exact hbl2) (by omega) (by first | omega | (simp only [List.length_append, List.length_cons, List.length_nil]; omega)) (by omega)).mono ?_))
        first | rintro e w4 rfl hbl4 hfr4 | rintro e w4 ⟨rfl, hbl4, hfr4⟩
        go_wp2_with fail
        go_roundw
        case rel =>
          refine ⟨k + 1, acc ++ showP ⟨0, fn, cse, thn, els⟩, by omega, by go_num, ?_, ?_, Lib.hid ?_, Lib.hid ?_⟩
          · have h := hbl4; simpa [showP, five, four] using h
          · first | exact (hbw2.trans (hb3.mono hz2)).trans (hfr4.below (by have := hb3.size; omega) (by simp; omega)) | exact hbw2.trans (hfr4.below hz2 (by simp; omega))
          · have := HL.out; have h5 := HPL.out; rw [List.length_append]; rw [Nat.succ_mul]; omega
          · rw [Hr.out, List.append_assoc, ← HR.out]
        case measure => simp [intOf]; omega
      · subst hkind
        go_wp2_with (first | (go_at_call 19; refine (quoted_any _ _ _ (by omega)).mono ?_; rintro e w3 ⟨rfl, hb3⟩; have hbl3 := hbl2.below hb3; have hz3 := hb3.size) | (go_at_call 21; refine (Name_any _ _).mono ?_; rintro e w3 ⟨rfl, hb3⟩; have hbl3 := hbl2.below hb3; have hz3 := hb3.size) | (go_at_call 20; refine (WriteString_any w.heap.size _ acc _ _ (by first | exact hbl3 | exact hbl2) (by omega) (by first | omega | (simp only [List.length_append, List.length_cons, List.length_nil]; omega)) (by omega)).mono ?_))
        first | rintro e w4 rfl hbl4 hfr4 | rintro e w4 ⟨rfl, hbl4, hfr4⟩
        go_wp2_with fail
        go_roundw
        case rel =>
          refine ⟨k + 1, acc ++ showP ⟨1, fn, cse, thn, els⟩, by omega, by go_num, ?_, ?_, Lib.hid ?_, Lib.hid ?_⟩
          · have h := hbl4; simpa [showP, five, four] using h
          · first | exact (hbw2.trans (hb3.mono hz2)).trans (hfr4.below (by have := hb3.size; omega) (by simp; omega)) | exact hbw2.trans (hfr4.below hz2 (by simp; omega))
          · have := HL.out; have h5 := HPL.out; rw [List.length_append]; rw [Nat.succ_mul]; omega
          · rw [Hr.out, List.append_assoc, ← HR.out]
        case measure => simp [intOf]; omega
      · subst hkind
        go_wp2_with (first | (go_at_call 19; refine (quoted_any _ _ _ (by omega)).mono ?_; rintro e w3 ⟨rfl, hb3⟩; have hbl3 := hbl2.below hb3; have hz3 := hb3.size) | (go_at_call 21; refine (Name_any _ _).mono ?_; rintro e w3 ⟨rfl, hb3⟩; have hbl3 := hbl2.below hb3; have hz3 := hb3.size) | (go_at_call 20; refine (WriteString_any w.heap.size _ acc _ _ (by first | exact hbl3 | exact hbl2) (by omega) (by first | omega | (simp only [List.length_append, List.length_cons, List.length_nil]; omega)) (by omega)).mono ?_))
        first | rintro e w4 rfl hbl4 hfr4 | rintro e w4 ⟨rfl, hbl4, hfr4⟩
        go_wp2_with fail
        go_roundw
        case rel =>
          refine ⟨k + 1, acc ++ showP ⟨2, fn, cse, thn, els⟩, by omega, by go_num, ?_, ?_, Lib.hid ?_, Lib.hid ?_⟩
          · have h := hbl4; simpa [showP, five, four] using h
          · first | exact (hbw2.trans (hb3.mono hz2)).trans (hfr4.below (by have := hb3.size; omega) (by simp; omega)) | exact hbw2.trans (hfr4.below hz2 (by simp; omega))
          · have := HL.out; have h5 := HPL.out; rw [List.length_append]; rw [Nat.succ_mul]; omega
          · rw [Hr.out, List.append_assoc, ← HR.out]
        case measure => simp [intOf]; omega
      · subst hkind
        go_wp2_with (first | (go_at_call 19; refine (quoted_any _ _ _ (by omega)).mono ?_; rintro e w3 ⟨rfl, hb3⟩; have hbl3 := hbl2.below hb3; have hz3 := hb3.size) | (go_at_call 21; refine (Name_any _ _).mono ?_; rintro e w3 ⟨rfl, hb3⟩; have hbl3 := hbl2.below hb3; have hz3 := hb3.size) | (go_at_call 20; refine (WriteString_any w.heap.size _ acc _ _ (by first | exact hbl3 | exact hbl2) (by omega) (by first | omega | (simp only [List.length_append, List.length_cons, List.length_nil]; omega)) (by omega)).mono ?_))
        first | rintro e w4 rfl hbl4 hfr4 | rintro e w4 ⟨rfl, hbl4, hfr4⟩
        go_wp2_with fail
        go_roundw
        case rel =>
          refine ⟨k + 1, acc ++ showP ⟨3, fn, cse, thn, els⟩, by omega, by go_num, ?_, ?_, Lib.hid ?_, Lib.hid ?_⟩
          · have h := hbl4; simpa [showP, five, four] using h
          · first | exact (hbw2.trans (hb3.mono hz2)).trans (hfr4.below (by have := hb3.size; omega) (by simp; omega)) | exact hbw2.trans (hfr4.below hz2 (by simp; omega))
          · have := HL.out; have h5 := HPL.out; rw [List.length_append]; rw [Nat.succ_mul]; omega
          · rw [Hr.out, List.append_assoc, ← HR.out]
        case measure => simp [intOf]; omega
      · subst hkind
        go_wp2_with (first | (go_at_call 19; refine (quoted_any _ _ _ (by omega)).mono ?_; rintro e w3 ⟨rfl, hb3⟩; have hbl3 := hbl2.below hb3; have hz3 := hb3.size) | (go_at_call 21; refine (Name_any _ _).mono ?_; rintro e w3 ⟨rfl, hb3⟩; have hbl3 := hbl2.below hb3; have hz3 := hb3.size) | (go_at_call 20; refine (WriteString_any w.heap.size _ acc _ _ (by first | exact hbl3 | exact hbl2) (by omega) (by first | omega | (simp only [List.length_append, List.length_cons, List.length_nil]; omega)) (by omega)).mono ?_))
        first | rintro e w4 rfl hbl4 hfr4 | rintro e w4 ⟨rfl, hbl4, hfr4⟩
        go_wp2_with fail
        go_roundw
        case rel =>
          refine ⟨k + 1, acc ++ showP ⟨4, fn, cse, thn, els⟩, by omega, by go_num, ?_, ?_, Lib.hid ?_, Lib.hid ?_⟩
          · have h := hbl4; simpa [showP, five, four] using h
          · first | exact (hbw2.trans (hb3.mono hz2)).trans (hfr4.below (by have := hb3.size; omega) (by simp; omega)) | exact hbw2.trans (hfr4.below hz2 (by simp; omega))
          · have := HL.out; have h5 := HPL.out; rw [List.length_append]; rw [Nat.succ_mul]; omega
          · rw [Hr.out, List.append_assoc, ← HR.out]
        case measure => simp [intOf]; omega
      · subst hkind
        go_wp2_with (first | (go_at_call 19; refine (quoted_any _ _ _ (by omega)).mono ?_; rintro e w3 ⟨rfl, hb3⟩; have hbl3 := hbl2.below hb3; have hz3 := hb3.size) | (go_at_call 21; refine (Name_any _ _).mono ?_; rintro e w3 ⟨rfl, hb3⟩; have hbl3 := hbl2.below hb3; have hz3 := hb3.size) | (go_at_call 20; refine (WriteString_any w.heap.size _ acc _ _ (by first | exact hbl3 | exact hbl2) (by omega) (by first | omega | (simp only [List.length_append, List.length_cons, List.length_nil]; omega)) (by omega)).mono ?_))
        first | rintro e w4 rfl hbl4 hfr4 | rintro e w4 ⟨rfl, hbl4, hfr4⟩
        go_wp2_with fail
        go_roundw
        case rel =>
          refine ⟨k + 1, acc ++ showP ⟨5, fn, cse, thn, els⟩, by omega, by go_num, ?_, ?_, Lib.hid ?_, Lib.hid ?_⟩
          · have h := hbl4; simpa [showP, five, four] using h
          · first | exact (hbw2.trans (hb3.mono hz2)).trans (hfr4.below (by have := hb3.size; omega) (by simp; omega)) | exact hbw2.trans (hfr4.below hz2 (by simp; omega))
          · have := HL.out; have h5 := HPL.out; rw [List.length_append]; rw [Nat.succ_mul]; omega
          · rw [Hr.out, List.append_assoc, ← HR.out]
        case measure => simp [intOf]; omega
theorem Show_no (a : Option Addr) (n c : Nat) (fs : List Fm) (w : World) (h : Sl w w.heap.size a 5 n (fcells fs)) (hn : n ≤ 1000000) (hmay : mayFs fs = false) :
    Calls Tryd.prog 9 #[.slice a n c] w fun e w' => e = .returned (.tuple #[.string ⟨([]).toArray⟩, .int .i64 10]) ∧ Below w.heap.size w w' := by
  have HSl := Lib.hid h
  clear h
  go_enter Tryd.func9, Tryd.ntmps9
  go_wp2_with (go_at_call 11; refine (May_any _ _ _ fs _ HSl.out (by omega)).mono ?_; rintro e w0 ⟨rfl, hb0⟩)
  go_ret2
  exact ⟨rfl, hb0⟩
end Go.Proofs.YtlomkfennnmkdaaDoor
