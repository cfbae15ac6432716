/- walks of rxshow: escape, often -/
import Derived.Test.YtpggnfpjjppbmaaDoorShM
import Derived.Test.YtpggnfpjjppbmaaDoorItoa
import Derived.Test.YtpggnfpjjppbmaaDoorT0
set_option maxRecDepth 100000
namespace Go.Proofs.YtpggnfpjjppbmaaDoor
open Go.RowKit
set_option maxHeartbeats 1000000 in
theorem escape_any (th c : Str) (w : World) (hc : c ≠ []) (hs : c.length ≤ 10000000) :
    Calls Tryd.prog 38 #[.string ⟨(c).toArray⟩, .string ⟨(th).toArray⟩] w fun e w' => e = .returned (.string ⟨(escL th c).toArray⟩) ∧ w = w' := by
  cases c with
  | nil => exact absurd rfl hc
  | cons a r =>
    clear hc
    simp only [List.length_cons] at hs
    generalize hR : escL th (a :: r) = R
    have HR := Lib.hid hR
    clear hR
    by_cases hm : th.contains a = true
    · obtain ⟨k, hk⟩ := idx_hit hm
      have HK := Lib.hid hk
      have HM := Lib.hid hm
      clear hk hm
      go_enter Tryd.func38, Tryd.ntmps38
      go_wp2_with (go_at_call 53; refine (IndexByte_eq _ HK.out).mono ?_; rintro e w1 ⟨rfl, rfl⟩)
      all_goals
        go_ret
        refine ⟨ret_str ?_, rfl⟩
        rw [← HR.out]
        have hm := HM.out
        clear HR HM HK
        unfold escL
        (repeat' split) <;> simp_all
    · have hk := idx_miss hm
      have HK := Lib.hid hk
      have HM := Lib.hid hm
      clear hk hm
      go_enter Tryd.func38, Tryd.ntmps38
      go_wp2_with (go_at_call 53; refine (IndexByte_eq _ HK.out).mono ?_; rintro e w1 ⟨rfl, rfl⟩)
      all_goals
        go_ret
        refine ⟨ret_str ?_, rfl⟩
        rw [← HR.out]
        have hm := HM.out
        clear HR HM HK
        unfold escL
        (repeat' split) <;> simp_all
set_option maxHeartbeats 1000000 in
theorem often_any (lo hi : Int) (w : World) (h0 : 0 ≤ lo) (h1 : lo ≤ 255) (h2 : hi = -1 ∨ lo ≤ hi ∧ hi ≤ 255) (ht : Tab w) :
    Calls Tryd.prog 40 #[.int .i64 lo, .int .i64 hi] w fun e w' => e = .returned (.string ⟨(oftS lo hi).toArray⟩) ∧ Below w.heap.size w w' := by
  generalize hR : oftS lo hi = R
  have HR := Lib.hid hR
  clear hR
  have HT := Lib.hid ht
  have hl := dec_len h0 (by omega : lo ≤ 9999)
  clear ht
  rcases h2 with rfl | ⟨h3, h4⟩
  · by_cases hl0 : lo = 0
    · subst hl0
      go_enter Tryd.func40, Tryd.ntmps40
      go_wp2
      go_ret
      exact ⟨ret_str (by rw [← HR.out]; simp [oftS]), Below.refl _ _⟩
    by_cases hl1 : lo = 1
    · subst hl1
      go_enter Tryd.func40, Tryd.ntmps40
      go_wp2
      go_ret
      exact ⟨ret_str (by rw [← HR.out]; simp [oftS]), Below.refl _ _⟩
    have e0 : (lo == 0) = false := by simpa using hl0
    have e1 : (lo == 1) = false := by simpa using hl1
    have e2 : (lo == -1) = false := (by rw [beq_eq_false_iff_ne]; omega)
    have HR2 : Hid (R = 123 :: (dec lo ++ [44, 125])) := Lib.hid (by
      rw [← HR.out]; unfold oftS
      rw [if_neg (by omega), if_neg (by omega), if_neg (by omega), if_neg (by omega), if_pos rfl])
    clear hl0 hl1 HR
    go_enter Tryd.func40, Tryd.ntmps40
    go_wp2_with (go_at_call 54; refine (Itoa_any _ _ (by omega) (by omega) HT.out).mono ?_; rintro e w1 ⟨rfl, hb1⟩)
    go_ret
    exact ⟨ret_str (by rw [HR2.out] <;> simp), hb1⟩
  · have hh := dec_len (n := hi) (by omega) (by omega)
    have e2 : (hi == -1) = false := by rw [beq_eq_false_iff_ne]; omega
    by_cases hlh : lo = hi
    · subst hlh
      have HR2 : Hid (R = 123 :: (dec lo ++ [125])) := Lib.hid (by
        rw [← HR.out]; unfold oftS
        rw [if_neg (by omega), if_neg (by omega), if_neg (by omega), if_pos rfl])
      clear HR
      by_cases hl0 : lo = 0
      · subst hl0
        go_enter Tryd.func40, Tryd.ntmps40
        go_wp2_with (go_at_call 54; refine (Itoa_any _ _ (by omega) (by omega) HT.out).mono ?_; rintro e w1 ⟨rfl, hb1⟩)
        go_ret
        exact ⟨ret_str (by rw [HR2.out] <;> simp), hb1⟩
      by_cases hl1 : lo = 1
      · subst hl1
        go_enter Tryd.func40, Tryd.ntmps40
        go_wp2_with (go_at_call 54; refine (Itoa_any _ _ (by omega) (by omega) HT.out).mono ?_; rintro e w1 ⟨rfl, hb1⟩)
        go_ret
        exact ⟨ret_str (by rw [HR2.out] <;> simp), hb1⟩
      · have e0 : (lo == 0) = false := by simpa using hl0
        have e1 : (lo == 1) = false := by simpa using hl1
        clear hl0 hl1
        go_enter Tryd.func40, Tryd.ntmps40
        go_wp2_with (go_at_call 54; refine (Itoa_any _ _ (by omega) (by omega) HT.out).mono ?_; rintro e w1 ⟨rfl, hb1⟩)
        go_ret
        exact ⟨ret_str (by rw [HR2.out] <;> simp), hb1⟩
    · by_cases hq : lo = 0 ∧ hi = 1
      · obtain ⟨rfl, rfl⟩ := hq
        go_enter Tryd.func40, Tryd.ntmps40
        go_wp2
        go_ret
        exact ⟨ret_str (by rw [← HR.out]; simp [oftS]), Below.refl _ _⟩
      have HR2 : Hid (R = 123 :: (dec lo ++ 44 :: (dec hi ++ [125]))) := Lib.hid (by
        rw [← HR.out]; unfold oftS
        rw [if_neg (by omega), if_neg (by omega), if_neg (by omega), if_neg hlh, if_neg (by omega)])
      have e3 : (lo == hi) = false := by simpa using hlh
      clear HR
      by_cases hl0 : lo = 0
      · subst hl0
        have e4 : (hi == 1) = false := by rw [beq_eq_false_iff_ne]; omega
        clear hq hlh
        go_enter Tryd.func40, Tryd.ntmps40
        go_wp2_with (go_at_call 54; refine (Itoa_any _ _ (by omega) (by omega) HT.out).mono ?_)
        first | rintro e w1 rfl hb1 | rintro e w1 ⟨rfl, hb1⟩
        have HT2 := Lib.hid (HT.out.keep hb1)
        go_wp2_with (go_at_call 54; refine (Itoa_any _ _ (by omega) (by omega) HT2.out).mono ?_)
        first | rintro e w2 rfl hb2 | rintro e w2 ⟨rfl, hb2⟩
        go_wp2
        go_ret
        exact ⟨ret_str (by rw [HR2.out] <;> simp), hb1.trans (hb2.mono hb1.size)⟩
      by_cases hl1 : lo = 1
      · subst hl1
        clear hq hlh
        go_enter Tryd.func40, Tryd.ntmps40
        go_wp2_with (go_at_call 54; refine (Itoa_any _ _ (by omega) (by omega) HT.out).mono ?_)
        first | rintro e w1 rfl hb1 | rintro e w1 ⟨rfl, hb1⟩
        have HT2 := Lib.hid (HT.out.keep hb1)
        go_wp2_with (go_at_call 54; refine (Itoa_any _ _ (by omega) (by omega) HT2.out).mono ?_)
        first | rintro e w2 rfl hb2 | rintro e w2 ⟨rfl, hb2⟩
        go_wp2
        go_ret
        exact ⟨ret_str (by rw [HR2.out] <;> simp), hb1.trans (hb2.mono hb1.size)⟩
      · have e0 : (lo == 0) = false := by simpa using hl0
        have e1 : (lo == 1) = false := by simpa using hl1
        clear hl0 hl1 hq hlh
        go_enter Tryd.func40, Tryd.ntmps40
        go_wp2_with (go_at_call 54; refine (Itoa_any _ _ (by omega) (by omega) HT.out).mono ?_)
        first | rintro e w1 rfl hb1 | rintro e w1 ⟨rfl, hb1⟩
        have HT2 := Lib.hid (HT.out.keep hb1)
        go_wp2_with (go_at_call 54; refine (Itoa_any _ _ (by omega) (by omega) HT2.out).mono ?_)
        first | rintro e w2 rfl hb2 | rintro e w2 ⟨rfl, hb2⟩
        go_wp2
        go_ret
        exact ⟨ret_str (by rw [HR2.out] <;> simp), hb1.trans (hb2.mono hb1.size)⟩
end Go.Proofs.YtpggnfpjjppbmaaDoor
