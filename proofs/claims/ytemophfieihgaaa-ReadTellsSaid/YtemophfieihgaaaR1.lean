/- walks of char: inside, end, Proper; of rxset: row, May -/
import Derived.Test.YtemophfieihgaaaRxV
set_option maxRecDepth 100000
namespace Go.Proofs.Ytemophfieihgaaa
open Go.RowKit
def spanE (l : Str) (i : Nat) : Nat := i + 1 + ((l.drop (i + 1)).takeWhile insideB).length
theorem inside_any (c : Int) (w : World) :
    Calls Try.prog 17 #[.int .u8 c] w fun e w' => e = .returned (.bool (decide (128 ≤ c ∧ c ≤ 191))) ∧ w = w' := by
  by_cases h : 128 ≤ c ∧ c ≤ 191
  · obtain ⟨h1, h2⟩ := h
    have hR : decide (128 ≤ c ∧ c ≤ 191) = true := by simp; omega
    rw [hR]
    clear hR
    go_enter Try.func17, Try.ntmps17
    go_wp2
    go_ret
    exact ⟨rfl, rfl⟩
  · have hR : decide (128 ≤ c ∧ c ≤ 191) = false := by simpa using h
    rw [hR]
    clear hR
    go_enter Try.func17, Try.ntmps17
    go_wp2
    all_goals
      go_ret
      refine ⟨ret_bool ?_, rfl⟩
      simp <;> omega
theorem inside_c (c : UInt8) {b : Bool} (w : World) (h : insideB c = b) :
    Calls Try.prog 17 #[.int .u8 c.toNat] w fun e w' => e = .returned (.bool b) ∧ w = w' := by
  refine (inside_any (c.toNat : Int) w).mono ?_
  rintro e w' ⟨rfl, rfl⟩
  refine ⟨ret_bool ?_, rfl⟩
  rw [← h, Bool.eq_iff_iff]; simp [insideB]; omega
set_option maxHeartbeats 400000 in
theorem end_any (l : Str) (i : Nat) (w : World) (hi : i ≤ 100000000) (hs : l.length ≤ 100000000) :
    Calls Try.prog 16 #[.string ⟨(l).toArray⟩, .int .i64 i] w fun e w' => e = .returned (.int .i64 (spanE l i)) ∧ w = w' := by
  generalize hR : spanE l i = R
  have HR := Lib.hid hR
  clear hR
  have HR0 : Hid (i + 1 + 0 + ((l.drop (i + 1 + 0)).takeWhile insideB).length = R) := HR
  clear HR
  go_enter Try.func16, Try.ntmps16
  go_wp2
  go_loop [1] (fun q => ∃ k : Nat, k ≤ l.length ∧ q = .int .i64 ((i + 1 + k : Nat) : Int) ∧ Hid (i + 1 + k + ((l.drop (i + 1 + k)).takeWhile insideB).length = R)) (fun q => l.length - (intOf q).toNat)
  case atStart => exact ⟨0, by omega, by go_num, HR0⟩
  case round =>
    obtain ⟨k, hk, rfl, HF⟩ := hrel
    clear HR0
    cases hd : l.drop (i + 1 + k) with
    | nil =>
      have h2 := drop_nil hd
      have HE : Hid (i + 1 + k = R) := Lib.hid (by rw [← HF.out, hd]; rfl)
      clear hd HF
      go_wp2
      go_ret
      exact ⟨ret_int (by rw [← HE.out]; omega), rfl⟩
    | cons c r =>
      obtain ⟨h2, h3, hr⟩ := drop_cons hd
      have HE : Hid (i + 1 + k + ((c :: r).takeWhile insideB).length = R) := Lib.hid (by rw [← HF.out, hd])
      have Hr := Lib.hid hr
      clear hd HF hr
      cases hc : insideB c with
      | true =>
        go_wp2_with (go_at_call 17; refine (inside_c c _ hc).mono ?_; rintro e w1 ⟨rfl, rfl⟩)
        go_round
        case rel =>
          refine ⟨k + 1, by omega, by go_num, Lib.hid ?_⟩
          rw [show i + 1 + (k + 1) = i + 1 + k + 1 from rfl, Hr.out, ← HE.out, List.takeWhile_cons_of_pos hc]; simp; omega
        case measure => simp [intOf]; omega
      | false =>
        go_wp2_with (go_at_call 17; refine (inside_c c _ hc).mono ?_; rintro e w1 ⟨rfl, rfl⟩)
        go_ret
        refine ⟨ret_int ?_, rfl⟩
        rw [← HE.out, List.takeWhile_cons_of_neg (by simp [hc])]; simp
theorem takeWhile_all : ∀ r : Str, ((r.takeWhile insideB).length = r.length) ↔ r.all insideB = true
  | [] => by simp
  | c :: r => by
    have ih := takeWhile_all r
    cases hc : insideB c with
    | true => rw [List.takeWhile_cons_of_pos hc]; simp only [List.length_cons, List.all_cons, hc, Bool.true_and, ← ih]; omega
    | false => rw [List.takeWhile_cons_of_neg (by simp [hc])]; simp [hc]
theorem Proper_any (l : Str) (w : World) (hs : l.length ≤ 100000000) :
    Calls Try.prog 9 #[.string ⟨(l).toArray⟩] w fun e w' => e = .returned (.bool (properB l)) ∧ w = w' := by
  cases l with
  | nil =>
    go_enter Try.func9, Try.ntmps9
    go_wp2
    go_ret
    exact ⟨rfl, rfl⟩
  | cons c r =>
    have hE : spanE (c :: r) 0 = 1 + (r.takeWhile insideB).length := by simp [spanE]
    have hta := takeWhile_all r
    obtain ⟨E, hE2⟩ : ∃ E, spanE (c :: r) 0 = E := ⟨_, rfl⟩
    have HE := Lib.hid hE
    have HTA := Lib.hid hta
    clear hE hta
    cases hc : insideB c with
    | true =>
      have hP : properB (c :: r) = false := by simp [properB, hc]
      rw [hP]
      clear hP hE2
      go_enter Try.func9, Try.ntmps9
      go_wp2_with (go_at_call 17; refine (inside_c c _ hc).mono ?_; rintro e w1 ⟨rfl, rfl⟩)
      go_ret
      exact ⟨rfl, rfl⟩
    | false =>
      have hP : properB (c :: r) = decide ((E : Int) = ((c :: r).length : Int)) := by
        rw [Bool.eq_iff_iff, decide_eq_true_eq, ← hE2, HE.out]
        simp only [properB, hc, Bool.not_false, Bool.true_and, ← HTA.out, List.length_cons]; omega
      have HP := Lib.hid hP
      have HE2 := Lib.hid hE2
      clear hP hE2
      rw [HP.out]
      go_enter Try.func9, Try.ntmps9
      go_wp2_with (first | (go_at_call 17; refine (inside_c c _ hc).mono ?_; rintro e w1 ⟨rfl, rfl⟩) | (go_at_call 16; refine (end_any (c :: r) 0 _ (by omega) hs).mono ?_; rintro e w1 ⟨rfl, rfl⟩; rw [HE2.out]))
      go_ret
      refine ⟨ret_bool ?_, rfl⟩
      rw [Bool.eq_iff_iff]; simp
set_option maxHeartbeats 400000 in
theorem row_any (f t : Str) (w : World) (hf : f.length ≤ 100000000) (ht : t.length ≤ 100000000) :
    Calls Try.prog 56 #[.agg #[.string ⟨(f).toArray⟩, .string ⟨(t).toArray⟩]] w fun e w' => e = .returned (.bool (rowB (f, t))) ∧ Below w.heap.size w w' := by
  generalize hR : rowB (f, t) = R
  have HR := Lib.hid hR
  clear hR
  cases h1 : properB f with
  | false =>
    have HE : Hid (R = false) := Lib.hid (by rw [← HR.out]; simp [rowB, h1])
    go_enter Try.func56, Try.ntmps56
    go_wp2_with (go_at_call 9; refine (Proper_any _ _ (by omega)).mono ?_; rintro e w1 ⟨rfl, rfl⟩)
    go_ret
    exact ⟨ret_bool HE.out.symm, (Below.refl _ _).alloc (Nat.le_refl _) _⟩
  | true =>
    cases h2 : properB t with
    | false =>
      have HE : Hid (R = false) := Lib.hid (by rw [← HR.out]; simp [rowB, h2])
      go_enter Try.func56, Try.ntmps56
      go_wp2_with (go_at_call 9; refine (Proper_any _ _ (by omega)).mono ?_; rintro e w1 ⟨rfl, rfl⟩)
      go_ret
      exact ⟨ret_bool HE.out.symm, (Below.refl _ _).alloc (Nat.le_refl _) _⟩
    | true =>
      have HE : Hid (R = leS f t) := Lib.hid (by rw [← HR.out]; simp [rowB, h1, h2])
      go_enter Try.func56, Try.ntmps56
      go_wp2_with (go_at_call 9; refine (Proper_any _ _ (by omega)).mono ?_; rintro e w1 ⟨rfl, rfl⟩)
      go_ret
      exact ⟨ret_bool (by rw [HE.out]), (Below.refl _ _).alloc (Nat.le_refl _) _⟩
end Go.Proofs.Ytemophfieihgaaa
