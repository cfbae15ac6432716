/- walks of casing -/
import Derived.Test.YtlomkfennnmkdaaDoorBld
import Derived.Test.YtlomkfennnmkdaaDoorCaseM
namespace Go.Proofs.YtlomkfennnmkdaaDoor
open Go.RowKit
theorem upper_any (c : Int) (w : World) (h0 : 0 ≤ c) (h1 : c < 256) :
    Calls Tryd.prog 38 #[.int .u8 c] w fun e w' => e = .returned (.int .u8 (upB (UInt8.ofNat c.toNat)).toNat) ∧ w = w' := by
  obtain ⟨R, hR⟩ : ∃ R : Nat, R = (upB (UInt8.ofNat c.toNat)).toNat := ⟨_, rfl⟩
  rw [← hR]
  rw [upB_nat, ofNat_nat h1] at hR
  have HR := Lib.hid hR; clear hR
  go_enter Tryd.func38, Tryd.ntmps38
  go_wp2
  all_goals
    go_ret
    refine ⟨?_, rfl⟩
    simp; rw [HR.out]; first | (rw [if_pos (by omega)]; omega) | (rw [if_neg (by omega)]; omega)
theorem lower_any (c : Int) (w : World) (h0 : 0 ≤ c) (h1 : c < 256) :
    Calls Tryd.prog 39 #[.int .u8 c] w fun e w' => e = .returned (.int .u8 (lowB (UInt8.ofNat c.toNat)).toNat) ∧ w = w' := by
  obtain ⟨R, hR⟩ : ∃ R : Nat, R = (lowB (UInt8.ofNat c.toNat)).toNat := ⟨_, rfl⟩
  rw [← hR]
  rw [lowB_nat, ofNat_nat h1] at hR
  have HR := Lib.hid hR; clear hR
  go_enter Tryd.func39, Tryd.ntmps39
  go_wp2
  all_goals
    go_ret
    refine ⟨?_, rfl⟩
    simp; rw [HR.out]; first | (rw [if_pos (by omega)]; omega) | (rw [if_neg (by omega)]; omega)
theorem word_any (c : Int) (w : World) (h0 : 0 ≤ c) (h1 : c < 256) :
    Calls Tryd.prog 50 #[.int .u8 c] w fun e w' => e = .returned (.bool (wordB (UInt8.ofNat c.toNat))) ∧ w = w' := by
  obtain ⟨R, hR⟩ : ∃ R : Bool, R = wordB (UInt8.ofNat c.toNat) := ⟨_, rfl⟩
  rw [← hR]
  rw [wordB, ofNat_nat h1] at hR
  have HR := Lib.hid hR; clear hR
  go_enter Tryd.func50, Tryd.ntmps50
  go_wp2
  all_goals
    go_ret
    refine ⟨ret_bool ?_, rfl⟩
    rw [HR.out, Bool.eq_iff_iff]; simp; try omega
theorem Name_any (n : Int) (w : World) :
    Calls Tryd.prog 21 #[.int .i64 n] w fun e w' => e = .returned (.string ⟨(nameOf n).toArray⟩) ∧ Below w.heap.size w w' := by
  by_cases h : 1 ≤ n ∧ n ≤ 5
  · obtain ⟨h1, h2⟩ := h
    have hn : n = 1 ∨ n = 2 ∨ n = 3 ∨ n = 4 ∨ n = 5 := by omega
    rcases hn with rfl | rfl | rfl | rfl | rfl
    all_goals
      go_enter Tryd.func21, Tryd.ntmps21
      go_wp2
      go_ret
      exact ⟨rfl, (Below.refl _ _).alloc (Nat.le_refl _) _⟩
  · have hz : nameOf n = [] := by
      unfold nameOf; rw [if_neg (by omega), if_neg (by omega), if_neg (by omega), if_neg (by omega), if_neg (by omega)]
    rw [hz]
    go_enter Tryd.func21, Tryd.ntmps21
    go_wp2
    all_goals
      first
      | (go_ret; exact ⟨rfl, Below.refl _ _⟩)
      | (exfalso; omega)
theorem Way_any (s : Str) (w : World) :
    Calls Tryd.prog 54 #[.string ⟨(s).toArray⟩] w fun e w' => e = .returned (.int .i64 (wayOf s)) ∧ Below w.heap.size w w' := by
  generalize hR : wayOf s = R
  have HR := Lib.hid hR
  clear hR
  go_enter Tryd.func54, Tryd.ntmps54
  go_wp2
  go_loopw [3] (fun q wr => ∃ k : Int, 1 ≤ k ∧ k ≤ 6 ∧ q = .int .i64 k ∧ Below w.heap.size w wr ∧ Hid (∀ j : Int, 1 ≤ j → j < k → nameOf j ≠ s)) (fun q _ => (6 - intOf q).toNat)
  case atStart => exact ⟨1, by omega, by omega, rfl, Below.refl _ _, Lib.hid fun j h1 h2 => by omega⟩
  case round =>
    obtain ⟨k, hk1, hk6, rfl, hb, HM⟩ := hrel
    by_cases h5 : k ≤ 5
    · by_cases hq : nameOf k = s
      · have hbq : (nameOf k == s) = true := by simp [hq]
        have Hq := Lib.hid hq; clear hq
        go_wp2_with (go_at_call 21; refine (Name_any _ _).mono ?_; rintro e w1 ⟨rfl, hb1⟩)
        go_ret
        exact ⟨ret_int (by rw [← HR.out, wayOf_hit hk1 h5 Hq.out]), hb.trans (hb1.mono hb.size)⟩
      · have hbq : (nameOf k == s) = false := by simp [hq]
        have Hq := Lib.hid hq; clear hq
        go_wp2_with (go_at_call 21; refine (Name_any _ _).mono ?_; rintro e w1 ⟨rfl, hb1⟩)
        go_roundw
        case rel =>
          refine ⟨k + 1, by omega, by omega, rfl, hb.trans (hb1.mono hb.size), Lib.hid fun j h1 h2 => ?_⟩
          by_cases hj : j = k
          · subst hj; exact Hq.out
          · exact HM.out j h1 (by omega)
        case measure => simp [intOf]; omega
    · go_wp2
      go_ret
      have : k = 6 := by omega
      subst this
      exact ⟨ret_int (by rw [← HR.out, wayOf_miss HM.out]), hb⟩
end Go.Proofs.YtlomkfennnmkdaaDoor
