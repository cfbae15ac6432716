/- walks of fmts: may, May -/
import Derived.Test.YtlomkfennnmkdaaDoorFmD
namespace Go.Proofs.YtlomkfennnmkdaaDoor
open Go.RowKit
set_option maxHeartbeats 4000000 in
theorem may_any (f : Fm) (w : World) :
    Calls Tryd.prog 26 #[.agg #[.int .i64 (f).kind, .int .i64 (f).n, .int .i64 (f).cse, .string ⟨((f).thn).toArray⟩, .string ⟨((f).els).toArray⟩]] w fun e w' => e = .returned (.bool (mayF f)) ∧ Below w.heap.size w w' := by
  obtain ⟨kind, n, cse, thn, els⟩ := f
  by_cases hn : 0 ≤ n ∧ n ≤ 9999
  · obtain ⟨hn0, hn1⟩ := hn
    have hz := fun (n : Int) (w : World) => Name_any n w
    generalize hR : mayF ⟨kind, n, cse, thn, els⟩ = R
    have HR := Lib.hid hR
    clear hR
    have HZ := Lib.hid hz; clear hz
    have hk : kind = 0 ∨ kind = 1 ∨ kind = 2 ∨ kind = 3 ∨ kind = 4 ∨ kind = 5 ∨ (¬ kind = 0 ∧ ¬ kind = 1 ∧ ¬ kind = 2 ∧ ¬ kind = 3 ∧ ¬ kind = 4 ∧ ¬ kind = 5) := by omega
    have HN : Hid (decide (0 ≤ n ∧ n ≤ 9999) = true) := Lib.hid (by simp; omega)
    rcases hk with hk | hk | hk | hk | hk | hk | ⟨k0, k1, k2, k3, k4, k5⟩
    · subst hk
      have HS : Hid (R = (blankB ⟨0, n, cse, thn, els⟩ false false true false && decide (thn ≠ []))) := Lib.hid (by rw [← HR.out, mayF, HN.out, Bool.true_and, if_pos rfl])
      clear HR
      by_cases hB : blankB ⟨0, n, cse, thn, els⟩ false false true false = true
      · go_enter Tryd.func26, Tryd.ntmps26
        go_wp2_with (go_at_call 37; refine (blank_any ⟨_, n, cse, thn, els⟩ _ _ _ _ _).mono ?_)
        rintro e w1 ⟨rfl, hb1⟩
        have c2 : w1.cell? ⟨w.heap.size, 3, none⟩ = some (.string ⟨(thn).toArray⟩) := by
          rw [hb1.cell (p := ⟨w.heap.size, 3, none⟩) (by simp)]; simp
        go_wp2
        go_ret
        refine ⟨ret_bool ?_, ((Below.refl _ _).alloc (Nat.le_refl _) _).trans (hb1.mono (by simp))⟩
        rw [HS.out, hB]; cases thn <;> rfl
      · have hB' : blankB ⟨0, n, cse, thn, els⟩ false false true false = false := by simpa using hB
        clear hB
        go_enter Tryd.func26, Tryd.ntmps26
        go_wp2_with (go_at_call 37; refine (blank_any ⟨_, n, cse, thn, els⟩ _ _ _ _ _).mono ?_; rintro e w1 ⟨rfl, hb1⟩)
        go_ret
        refine ⟨ret_bool ?_, ((Below.refl _ _).alloc (Nat.le_refl _) _).trans (hb1.mono (by simp))⟩
        rw [HS.out, hB']; simp
    · subst hk
      have HS : Hid (R = (blankB ⟨1, n, cse, thn, els⟩ true false false false)) := Lib.hid (by rw [← HR.out, mayF, HN.out, Bool.true_and, if_neg (by simp), if_pos rfl])
      clear HR
      go_enter Tryd.func26, Tryd.ntmps26
      go_wp2_with (go_at_call 37; refine (blank_any ⟨_, n, cse, thn, els⟩ _ _ _ _ _).mono ?_; rintro e w1 ⟨rfl, hb1⟩)
      go_ret
      exact ⟨ret_bool HS.out.symm, ((Below.refl _ _).alloc (Nat.le_refl _) _).trans (hb1.mono (by simp))⟩
    · subst hk
      have HS : Hid (R = (blankB ⟨2, n, cse, thn, els⟩ true true false false && decide (nameOf cse ≠ []))) := Lib.hid (by rw [← HR.out, mayF, HN.out, Bool.true_and, if_neg (by simp), if_neg (by simp), if_pos rfl])
      clear HR
      by_cases hB : blankB ⟨2, n, cse, thn, els⟩ true true false false = true
      · go_enter Tryd.func26, Tryd.ntmps26
        go_wp2_with (go_at_call 37; refine (blank_any ⟨_, n, cse, thn, els⟩ _ _ _ _ _).mono ?_)
        rintro e w1 ⟨rfl, hb1⟩
        have c2 : w1.cell? ⟨w.heap.size, 2, none⟩ = some (.int .i64 cse) := by
          rw [hb1.cell (p := ⟨w.heap.size, 2, none⟩) (by simp)]; simp
        go_wp2_with (go_at_call 21; refine (HZ.out _ _).mono ?_)
        rintro e w2 ⟨rfl, hb2⟩
        go_wp2
        go_ret
        refine ⟨ret_bool ?_, (((Below.refl _ _).alloc (Nat.le_refl _) _).trans (hb1.mono (by simp))).trans (hb2.mono (by have := hb1.size; simp at this; omega))⟩
        rw [HS.out, hB]; cases nameOf cse <;> rfl
      · have hB' : blankB ⟨2, n, cse, thn, els⟩ true true false false = false := by simpa using hB
        clear hB
        go_enter Tryd.func26, Tryd.ntmps26
        go_wp2_with (go_at_call 37; refine (blank_any ⟨_, n, cse, thn, els⟩ _ _ _ _ _).mono ?_; rintro e w1 ⟨rfl, hb1⟩)
        go_ret
        refine ⟨ret_bool ?_, ((Below.refl _ _).alloc (Nat.le_refl _) _).trans (hb1.mono (by simp))⟩
        rw [HS.out, hB']; simp
    · subst hk
      have HS : Hid (R = (blankB ⟨3, n, cse, thn, els⟩ true false true false)) := Lib.hid (by rw [← HR.out, mayF, HN.out, Bool.true_and, if_neg (by simp), if_neg (by simp), if_neg (by simp), if_pos rfl])
      clear HR
      go_enter Tryd.func26, Tryd.ntmps26
      go_wp2_with (go_at_call 37; refine (blank_any ⟨_, n, cse, thn, els⟩ _ _ _ _ _).mono ?_; rintro e w1 ⟨rfl, hb1⟩)
      go_ret
      exact ⟨ret_bool HS.out.symm, ((Below.refl _ _).alloc (Nat.le_refl _) _).trans (hb1.mono (by simp))⟩
    · subst hk
      have HS : Hid (R = (blankB ⟨4, n, cse, thn, els⟩ true false false true)) := Lib.hid (by rw [← HR.out, mayF, HN.out, Bool.true_and, if_neg (by simp), if_neg (by simp), if_neg (by simp), if_neg (by simp), if_pos rfl])
      clear HR
      go_enter Tryd.func26, Tryd.ntmps26
      go_wp2_with (go_at_call 37; refine (blank_any ⟨_, n, cse, thn, els⟩ _ _ _ _ _).mono ?_; rintro e w1 ⟨rfl, hb1⟩)
      go_ret
      exact ⟨ret_bool HS.out.symm, ((Below.refl _ _).alloc (Nat.le_refl _) _).trans (hb1.mono (by simp))⟩
    · subst hk
      have HS : Hid (R = (blankB ⟨5, n, cse, thn, els⟩ true false true true)) := Lib.hid (by rw [← HR.out, mayF, HN.out, Bool.true_and, if_neg (by simp), if_neg (by simp), if_neg (by simp), if_neg (by simp), if_neg (by simp), if_pos rfl])
      clear HR
      go_enter Tryd.func26, Tryd.ntmps26
      go_wp2_with (go_at_call 37; refine (blank_any ⟨_, n, cse, thn, els⟩ _ _ _ _ _).mono ?_; rintro e w1 ⟨rfl, hb1⟩)
      go_ret
      exact ⟨ret_bool HS.out.symm, ((Below.refl _ _).alloc (Nat.le_refl _) _).trans (hb1.mono (by simp))⟩
    · have HS : Hid (R = false) := Lib.hid (by rw [← HR.out, mayF, HN.out, Bool.true_and, if_neg (by omega), if_neg (by omega), if_neg (by omega), if_neg (by omega), if_neg (by omega), if_neg (by omega)])
      clear HR
      have e0 : (kind == 0) = false := by simpa using k0
      have e1 : (kind == 1) = false := by simpa using k1
      have e2 : (kind == 2) = false := by simpa using k2
      have e3 : (kind == 3) = false := by simpa using k3
      have e4 : (kind == 4) = false := by simpa using k4
      have e5 : (kind == 5) = false := by simpa using k5
      clear k0 k1 k2 k3 k4 k5
      go_enter Tryd.func26, Tryd.ntmps26
      go_wp2
      go_ret
      exact ⟨ret_bool HS.out.symm, (Below.refl _ _).alloc (Nat.le_refl _) _⟩
  · have HS : Hid (mayF ⟨kind, n, cse, thn, els⟩ = false) := Lib.hid (by unfold mayF; rw [decide_eq_false hn, Bool.false_and])
    rw [HS.out]
    go_enter Tryd.func26, Tryd.ntmps26
    go_wp2
    all_goals first
      | (exfalso; omega)
      | (go_ret; exact ⟨rfl, (Below.refl _ _).alloc (Nat.le_refl _) _⟩)
end Go.Proofs.YtlomkfennnmkdaaDoor
