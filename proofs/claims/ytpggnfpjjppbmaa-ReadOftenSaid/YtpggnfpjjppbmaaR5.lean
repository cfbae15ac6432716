/- walk of rxtree.fields -/
import Derived.Test.YtpggnfpjjppbmaaR4
set_option maxRecDepth 100000
namespace Go.Proofs.Ytpggnfpjjppbmaa
open Go.RowKit
namespace Rx
/-- All that a tree has is of a size that a machine bears. -/
def small1 : Rx → Prop
  | mk _ c _ rs _ _ _ ks => c.length ≤ 1000000 ∧ rs.length ≤ 1000000 ∧ (∀ r ∈ rs, r.1.length ≤ 1000000 ∧ r.2.length ≤ 1000000) ∧ ks.length ≤ 1000000
mutual
def small : Rx → Prop
  | mk k c ng rs lo hi lz ks => small1 (mk k c ng rs lo hi lz ks) ∧ smallL ks
def smallL : List Rx → Prop
  | [] => True
  | x :: r => small x ∧ smallL r
end
end Rx
theorem smallL_mem : ∀ {ks : List Rx} {x : Rx}, Rx.smallL ks → x ∈ ks → x.small
  | [], _, _, h => by simp at h
  | y :: r, x, hs, h => by
    simp only [Rx.smallL] at hs
    rcases List.mem_cons.1 h with rfl | h
    · exact hs.1
    · exact smallL_mem hs.2 h
theorem bareB_eq (k : Int) (c : Str) (ng : Bool) (rs : List (Str × Str)) (lo hi : Int) (lz : Bool) (ks : List Rx) : bareB (.mk k c ng rs lo hi lz ks) = bareV c ng rs.length lo hi lz := by
  show (decide (c = []) && !ng && decide (rs = []) && decide (lo = 0) && decide (hi = 0) && !lz) = _
  rw [Bool.eq_iff_iff]; simp [bareV]
theorem bare_eq {k : Int} {c : Str} {ng : Bool} {ra : Option Addr} {rn rc : Nat} {lo hi : Int} {lz : Bool} {ka : Option Addr} {kn kc : Nat} {b : Bool} (w : World) (h : bareV c ng rn lo hi lz = b) :
    Calls Try.prog 65 #[.agg #[.int .i64 k, .string ⟨(c).toArray⟩, .bool ng, .slice ra rn rc, .int .i64 lo, .int .i64 hi, .bool lz, .slice ka kn kc]] w fun e w' => e = .returned (.bool b) ∧ Below w.heap.size w w' ∧ ∀ a u, w.cell? a = some u → w'.cell? a = some u := by
  subst h
  exact (bare_any k c ng ra rn rc lo hi lz ka kn kc w).mono fun _ _ ⟨h1, h2⟩ => ⟨h1, h2, cell_kept h2⟩
def nilB (ks : List Rx) : Bool := match ks with | [] => true | _ => false
set_option maxHeartbeats 4000000 in
theorem fields_2 (c : Str) (ng : Bool) (ra : Option Addr) (rs : List (Str × Str)) (rc : Nat) (lo hi : Int) (lz : Bool) (ka : Option Addr) (ks : List Rx) (kc : Nat) (w : World)
    (hsm : (Rx.mk 2 c ng rs lo hi lz ks).small1) :
    Calls Try.prog 56 #[.agg #[.int .i64 2, .string ⟨(c).toArray⟩, .bool ng, .slice ra rs.length rc, .int .i64 lo, .int .i64 hi, .bool lz, .slice ka ks.length kc]] w fun e w' => e = .returned (.bool (fieldsB (.mk 2 c ng rs lo hi lz ks))) ∧ Below w.heap.size w w' := by
  generalize hR : fieldsB (.mk 2 c ng rs lo hi lz ks) = R
  have HR := Lib.hid hR
  clear hR
  have HS : Hid (R = (bareV [] ng rs.length lo hi lz && nilB ks && properB c)) := Lib.hid (by rw [← HR.out, ← bareB_eq]; cases ks <;> rfl)
  obtain ⟨s1, s2, s3, s4⟩ := hsm
  clear HR s3
  cases hbv : bareV [] ng rs.length lo hi lz with
  | false =>
    have HB := Lib.hid hbv
    have HR : Hid (R = false) := Lib.hid (by rw [HS.out, hbv]; rfl)
    clear hbv
    go_enter Try.func56, Try.ntmps56
    go_wp2_with (go_at_call 65; refine (bare_eq _ HB.out).mono ?_; rintro e w1 ⟨rfl, hb1, hc1⟩; have hq7 := hc1 ⟨w.heap.size, 7, none⟩ (.slice ka (ks.length) kc) (by simp))
    go_ret
    exact ⟨ret_bool HR.out.symm, ((Below.refl _ _).alloc (Nat.le_refl _) _).trans (hb1.mono (by simp))⟩
  | true =>
    have HB := Lib.hid hbv
    have HR : Hid (R = (nilB ks && properB c)) := Lib.hid (by rw [HS.out, hbv]; rfl)
    clear hbv
    rcases ks with _ | ⟨x, ks⟩
    · have HR2 : Hid (R = properB c) := Lib.hid (by rw [HR.out]; rfl)
      go_enter Try.func56, Try.ntmps56
      go_wp2_with (first | (go_at_call 65; refine (bare_eq _ HB.out).mono ?_; rintro e w1 ⟨rfl, hb1, hc1⟩; have hq7 := hc1 ⟨w.heap.size, 7, none⟩ (.slice ka (0) kc) (by simp)) | (go_at_call 29; refine (Proper_any _ _ (by omega)).mono ?_; rintro e w2 ⟨rfl, rfl⟩))
      go_ret
      exact ⟨ret_bool HR2.out.symm, ((Below.refl _ _).alloc (Nat.le_refl _) _).trans (hb1.mono (by simp))⟩
    · have HR2 : Hid (R = false) := Lib.hid (by rw [HR.out]; rfl)
      go_enter Try.func56, Try.ntmps56
      go_wp2_with (go_at_call 65; refine (bare_eq _ HB.out).mono ?_; rintro e w1 ⟨rfl, hb1, hc1⟩; have hq7 := hc1 ⟨w.heap.size, 7, none⟩ (.slice ka (ks.length + 1) kc) (by simp))
      go_ret
      exact ⟨ret_bool HR2.out.symm, ((Below.refl _ _).alloc (Nat.le_refl _) _).trans (hb1.mono (by simp))⟩
set_option maxHeartbeats 4000000 in
theorem fields_4 (c : Str) (ng : Bool) (ra : Option Addr) (rs : List (Str × Str)) (rc : Nat) (lo hi : Int) (lz : Bool) (ka : Option Addr) (ks : List Rx) (kc : Nat) (w : World)
    (hr : Sl w w.heap.size ra 2 rs.length (rcells rs)) (hsm : (Rx.mk 4 c ng rs lo hi lz ks).small1) :
    Calls Try.prog 56 #[.agg #[.int .i64 4, .string ⟨(c).toArray⟩, .bool ng, .slice ra rs.length rc, .int .i64 lo, .int .i64 hi, .bool lz, .slice ka ks.length kc]] w fun e w' => e = .returned (.bool (fieldsB (.mk 4 c ng rs lo hi lz ks))) ∧ Below w.heap.size w w' := by
  generalize hR : fieldsB (.mk 4 c ng rs lo hi lz ks) = R
  have HR := Lib.hid hR
  clear hR
  have HS : Hid (R = (bareV c false 0 lo hi lz && nilB ks && rowsB rs)) := Lib.hid (by rw [← HR.out, show (0 : Nat) = ([] : List (Str × Str)).length from rfl, ← bareB_eq 4 c false [] lo hi lz ks]; cases ks <;> rfl)
  obtain ⟨s1, s2, s3, s4⟩ := hsm
  have HRS := Lib.hid hr
  have HS3 := Lib.hid s3
  clear HR s3 hr
  cases hbv : bareV c false 0 lo hi lz with
  | false =>
    have HB := Lib.hid hbv
    have HR : Hid (R = false) := Lib.hid (by rw [HS.out, hbv]; rfl)
    clear hbv
    go_enter Try.func56, Try.ntmps56
    go_wp2_with (go_at_call 65; refine (bare_eq _ HB.out).mono ?_; rintro e w1 ⟨rfl, hb1, hc1⟩; have hq7 := hc1 ⟨w.heap.size, 7, none⟩ (.slice ka (ks.length) kc) (by simp))
    go_ret
    exact ⟨ret_bool HR.out.symm, ((Below.refl _ _).alloc (Nat.le_refl _) _).trans (hb1.mono (by simp))⟩
  | true =>
    have HB := Lib.hid hbv
    have HR : Hid (R = (nilB ks && rowsB rs)) := Lib.hid (by rw [HS.out, hbv]; rfl)
    clear hbv
    rcases ks with _ | ⟨x, ks⟩
    · have HR2 : Hid (R = rowsB rs) := Lib.hid (by rw [HR.out]; rfl)
      go_enter Try.func56, Try.ntmps56
      go_wp2_with (first | (((go_at_call 65; refine (bare_eq _ HB.out).mono ?_; rintro e w1 ⟨rfl, hb1, hc1⟩; have hq7 := hc1 ⟨w.heap.size, 7, none⟩ (.slice ka (0) kc) (by simp))); have HR1 := Lib.hid (((HRS.out.alloc_self _).keep hb1).mono hb1.size)) | (go_at_call 66; refine (RowsMay_any _ _ _ rs _ HR1.out (by omega) (fun r hr => by have := HS3.out r hr; omega)).mono ?_; rintro e w2 ⟨rfl, hb2⟩))
      go_ret
      exact ⟨ret_bool HR2.out.symm, (((Below.refl _ _).alloc (Nat.le_refl _) _).trans (hb1.mono (by simp))).trans (hb2.mono (by have := hb1.size; simp at this; omega))⟩
    · have HR2 : Hid (R = false) := Lib.hid (by rw [HR.out]; rfl)
      go_enter Try.func56, Try.ntmps56
      go_wp2_with (go_at_call 65; refine (bare_eq _ HB.out).mono ?_; rintro e w1 ⟨rfl, hb1, hc1⟩; have hq7 := hc1 ⟨w.heap.size, 7, none⟩ (.slice ka (ks.length + 1) kc) (by simp))
      go_ret
      exact ⟨ret_bool HR2.out.symm, ((Below.refl _ _).alloc (Nat.le_refl _) _).trans (hb1.mono (by simp))⟩
set_option maxHeartbeats 4000000 in
theorem fields_one (K : Int) (hK : K = 5 ∨ K = 6) (c : Str) (ng : Bool) (ra : Option Addr) (rs : List (Str × Str)) (rc : Nat) (lo hi : Int) (lz : Bool) (ka : Option Addr) (ks : List Rx) (kc : Nat) (w : World)
    (hsm : (Rx.mk K c ng rs lo hi lz ks).small1) :
    Calls Try.prog 56 #[.agg #[.int .i64 K, .string ⟨(c).toArray⟩, .bool ng, .slice ra rs.length rc, .int .i64 lo, .int .i64 hi, .bool lz, .slice ka ks.length kc]] w fun e w' => e = .returned (.bool (fieldsB (.mk K c ng rs lo hi lz ks))) ∧ Below w.heap.size w w' := by
  generalize hR : fieldsB (.mk K c ng rs lo hi lz ks) = R
  have HR := Lib.hid hR
  clear hR
  have HS : Hid (R = (bareV c ng rs.length lo hi lz && decide (ks.length = 1))) := Lib.hid (by rw [← HR.out, ← bareB_eq K c ng rs lo hi lz ks]; rcases hK with rfl | rfl <;> rfl)
  obtain ⟨s1, s2, s3, s4⟩ := hsm
  clear HR s3
  rcases hK with rfl | rfl
  all_goals
    cases hbv : bareV c ng rs.length lo hi lz with
    | false =>
      have HB := Lib.hid hbv
      have HR : Hid (R = false) := Lib.hid (by rw [HS.out, hbv]; rfl)
      clear hbv
      go_enter Try.func56, Try.ntmps56
      go_wp2_with (go_at_call 65; refine (bare_eq _ HB.out).mono ?_; rintro e w1 ⟨rfl, hb1, hc1⟩; have hq7 := hc1 ⟨w.heap.size, 7, none⟩ (.slice ka (ks.length) kc) (by simp))
      go_ret
      exact ⟨ret_bool HR.out.symm, ((Below.refl _ _).alloc (Nat.le_refl _) _).trans (hb1.mono (by simp))⟩
    | true =>
      have HB := Lib.hid hbv
      have HR : Hid (R = decide (ks.length = 1)) := Lib.hid (by rw [HS.out, hbv]; rfl)
      clear hbv
      rcases ks with _ | ⟨x, _ | ⟨y, ks⟩⟩
      · have HR2 : Hid (R = false) := Lib.hid (by rw [HR.out]; rfl)
        go_enter Try.func56, Try.ntmps56
        go_wp2_with (go_at_call 65; refine (bare_eq _ HB.out).mono ?_; rintro e w1 ⟨rfl, hb1, hc1⟩; have hq7 := hc1 ⟨w.heap.size, 7, none⟩ (.slice ka (0) kc) (by simp))
        go_ret
        exact ⟨ret_bool HR2.out.symm, ((Below.refl _ _).alloc (Nat.le_refl _) _).trans (hb1.mono (by simp))⟩
      · have HR2 : Hid (R = true) := Lib.hid (by rw [HR.out]; rfl)
        go_enter Try.func56, Try.ntmps56
        go_wp2_with (go_at_call 65; refine (bare_eq _ HB.out).mono ?_; rintro e w1 ⟨rfl, hb1, hc1⟩; have hq7 := hc1 ⟨w.heap.size, 7, none⟩ (.slice ka (1) kc) (by simp))
        go_ret
        exact ⟨ret_bool HR2.out.symm, ((Below.refl _ _).alloc (Nat.le_refl _) _).trans (hb1.mono (by simp))⟩
      · have HR2 : Hid (R = false) := Lib.hid (by rw [HR.out]; simp)
        go_enter Try.func56, Try.ntmps56
        go_wp2_with (go_at_call 65; refine (bare_eq _ HB.out).mono ?_; rintro e w1 ⟨rfl, hb1, hc1⟩; have hq7 := hc1 ⟨w.heap.size, 7, none⟩ (.slice ka (ks.length + 1 + 1) kc) (by simp))
        go_ret
        exact ⟨ret_bool HR2.out.symm, ((Below.refl _ _).alloc (Nat.le_refl _) _).trans (hb1.mono (by simp))⟩
set_option maxHeartbeats 4000000 in
theorem fields_none (K : Int) (hK : K = 3 ∨ K = 8 ∨ K = 9 ∨ K = 10 ∨ K = 11) (c : Str) (ng : Bool) (ra : Option Addr) (rs : List (Str × Str)) (rc : Nat) (lo hi : Int) (lz : Bool) (ka : Option Addr) (ks : List Rx) (kc : Nat) (w : World)
    (hsm : (Rx.mk K c ng rs lo hi lz ks).small1) :
    Calls Try.prog 56 #[.agg #[.int .i64 K, .string ⟨(c).toArray⟩, .bool ng, .slice ra rs.length rc, .int .i64 lo, .int .i64 hi, .bool lz, .slice ka ks.length kc]] w fun e w' => e = .returned (.bool (fieldsB (.mk K c ng rs lo hi lz ks))) ∧ Below w.heap.size w w' := by
  generalize hR : fieldsB (.mk K c ng rs lo hi lz ks) = R
  have HR := Lib.hid hR
  clear hR
  have HS : Hid (R = (bareV c ng rs.length lo hi lz && nilB ks)) := Lib.hid (by rw [← HR.out, ← bareB_eq K c ng rs lo hi lz ks]; rcases hK with rfl | rfl | rfl | rfl | rfl <;> cases ks <;> rfl)
  obtain ⟨s1, s2, s3, s4⟩ := hsm
  clear HR s3
  rcases hK with rfl | rfl | rfl | rfl | rfl
  all_goals
    cases hbv : bareV c ng rs.length lo hi lz with
    | false =>
      have HB := Lib.hid hbv
      have HR : Hid (R = false) := Lib.hid (by rw [HS.out, hbv]; rfl)
      clear hbv
      go_enter Try.func56, Try.ntmps56
      go_wp2_with (go_at_call 65; refine (bare_eq _ HB.out).mono ?_; rintro e w1 ⟨rfl, hb1, hc1⟩; have hq7 := hc1 ⟨w.heap.size, 7, none⟩ (.slice ka (ks.length) kc) (by simp))
      go_ret
      exact ⟨ret_bool HR.out.symm, ((Below.refl _ _).alloc (Nat.le_refl _) _).trans (hb1.mono (by simp))⟩
    | true =>
      have HB := Lib.hid hbv
      have HR : Hid (R = nilB ks) := Lib.hid (by rw [HS.out, hbv]; rfl)
      clear hbv
      rcases ks with _ | ⟨x, ks⟩
      · have HR2 : Hid (R = true) := Lib.hid (by rw [HR.out]; rfl)
        go_enter Try.func56, Try.ntmps56
        go_wp2_with (go_at_call 65; refine (bare_eq _ HB.out).mono ?_; rintro e w1 ⟨rfl, hb1, hc1⟩; have hq7 := hc1 ⟨w.heap.size, 7, none⟩ (.slice ka (0) kc) (by simp))
        go_ret
        exact ⟨ret_bool HR2.out.symm, ((Below.refl _ _).alloc (Nat.le_refl _) _).trans (hb1.mono (by simp))⟩
      · have HR2 : Hid (R = false) := Lib.hid (by rw [HR.out]; rfl)
        go_enter Try.func56, Try.ntmps56
        go_wp2_with (go_at_call 65; refine (bare_eq _ HB.out).mono ?_; rintro e w1 ⟨rfl, hb1, hc1⟩; have hq7 := hc1 ⟨w.heap.size, 7, none⟩ (.slice ka (ks.length + 1) kc) (by simp))
        go_ret
        exact ⟨ret_bool HR2.out.symm, ((Below.refl _ _).alloc (Nat.le_refl _) _).trans (hb1.mono (by simp))⟩
set_option maxHeartbeats 4000000 in
theorem fields_else (K : Int) (hK : ¬ K = 0 ∧ ¬ K = 1 ∧ ¬ K = 2 ∧ ¬ K = 3 ∧ ¬ K = 4 ∧ ¬ K = 5 ∧ ¬ K = 6 ∧ ¬ K = 7 ∧ ¬ K = 8 ∧ ¬ K = 9 ∧ ¬ K = 10 ∧ ¬ K = 11) (c : Str) (ng : Bool) (ra : Option Addr) (rn : Nat) (rs : List (Str × Str)) (rc : Nat) (lo hi : Int) (lz : Bool) (ka : Option Addr) (kn : Nat) (ks : List Rx) (kc : Nat) (w : World) :
    Calls Try.prog 56 #[.agg #[.int .i64 K, .string ⟨(c).toArray⟩, .bool ng, .slice ra rn rc, .int .i64 lo, .int .i64 hi, .bool lz, .slice ka kn kc]] w fun e w' => e = .returned (.bool (fieldsB (.mk K c ng rs lo hi lz ks))) ∧ Below w.heap.size w w' := by
  obtain ⟨k0, k1, k2, k3, k4, k5, k6, k7, k8, k9, k10, k11⟩ := hK
  have HS : Hid (fieldsB (.mk K c ng rs lo hi lz ks) = false) := Lib.hid (by
    simp only [fieldsB]
    rw [if_neg k2, if_neg k4, if_neg k7, if_neg k0, if_neg k1, if_neg (by omega), if_neg (by omega)])
  rw [HS.out]
  have e0 : (K == 0) = false := by simpa using k0
  have e1 : (K == 1) = false := by simpa using k1
  have e2 : (K == 2) = false := by simpa using k2
  have e3 : (K == 3) = false := by simpa using k3
  have e4 : (K == 4) = false := by simpa using k4
  have e5 : (K == 5) = false := by simpa using k5
  have e6 : (K == 6) = false := by simpa using k6
  have e7 : (K == 7) = false := by simpa using k7
  have e8 : (K == 8) = false := by simpa using k8
  have e9 : (K == 9) = false := by simpa using k9
  have e10 : (K == 10) = false := by simpa using k10
  have e11 : (K == 11) = false := by simpa using k11
  clear k0 k1 k2 k3 k4 k5 k6 k7 k8 k9 k10 k11
  go_enter Try.func56, Try.ntmps56
  go_wp2
  go_ret
  exact ⟨rfl, (Below.refl _ _).alloc (Nat.le_refl _) _⟩
end Go.Proofs.Ytpggnfpjjppbmaa
