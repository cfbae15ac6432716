/- walk of rxtree.fields: the rest -/
import Derived.Test.YtpggnfpjjppbmaaDoorR5
set_option maxRecDepth 100000
namespace Go.Proofs.YtpggnfpjjppbmaaDoor
open Go.RowKit
theorem any_no2 (ks : List Rx) : (!anyK ks [0, 1]) = ks.all fun x => decide (x.kind ≠ 0 ∧ x.kind ≠ 1) := by
  induction ks with
  | nil => rfl
  | cons x r ih =>
    simp only [anyK, List.any_cons, List.all_cons, Bool.not_or] at *
    rw [ih]; congr 1
    rw [Bool.eq_iff_iff]; simp
theorem any_no1 (ks : List Rx) : (!anyK ks [1]) = ks.all fun x => decide (x.kind ≠ 1) := by
  induction ks with
  | nil => rfl
  | cons x r ih =>
    simp only [anyK, List.any_cons, List.all_cons, Bool.not_or] at *
    rw [ih]; congr 1
    rw [Bool.eq_iff_iff]; simp
theorem some_eq {S : Nat → Prop} {xa : Option Addr} {xc m : Nat} {xs : List Rx} {zs : List Int} {a : Option Addr} {n c : Nat} {b : Bool} (w : World) (h0 : anyK xs zs = b)
    (hx : RxSl w S xa m xs) (hxn : xs.length ≤ 100000000) (h : Sl w w.heap.size a 1 n (icells zs)) (hn : n ≤ 100000000) :
    Calls Tryd.prog 62 #[.slice xa m xc, .slice a n c] w fun e w' => e = .returned (.bool b) ∧ Below w.heap.size w w' := by
  obtain rfl := hx.len
  subst h0
  exact some_any S xa xc xs zs a n c w hx hxn h hn
set_option maxHeartbeats 4000000 in
theorem fields_0 (S : Nat → Prop) (c : Str) (ng : Bool) (ra : Option Addr) (rs : List (Str × Str)) (rc : Nat) (lo hi : Int) (lz : Bool) (ka : Option Addr) (ks : List Rx) (kc : Nat) (w : World)
    (hx : RxSl w S ka ks.length ks) (hsm : (Rx.mk 0 c ng rs lo hi lz ks).small1) :
    Calls Tryd.prog 47 #[.agg #[.int .i64 0, .string ⟨(c).toArray⟩, .bool ng, .slice ra rs.length rc, .int .i64 lo, .int .i64 hi, .bool lz, .slice ka ks.length kc]] w fun e w' => e = .returned (.bool (fieldsB (.mk 0 c ng rs lo hi lz ks))) ∧ Below w.heap.size w w' := by
  generalize hR : fieldsB (.mk 0 c ng rs lo hi lz ks) = R
  have HR := Lib.hid hR
  clear hR
  have HS : Hid (R = (bareV c ng rs.length lo hi lz && decide (ks.length ≠ 1) && !anyK ks [0, 1])) := Lib.hid (by rw [← HR.out, ← bareB_eq 0 c ng rs lo hi lz ks, any_no2]; rfl)
  obtain ⟨s1, s2, s3, s4⟩ := hsm
  clear HR s3
  cases hbv : bareV c ng rs.length lo hi lz with
  | false =>
    have HB := Lib.hid hbv
    have HR : Hid (R = false) := Lib.hid (by rw [HS.out, hbv]; rfl)
    clear hbv
    go_enter Tryd.func47, Tryd.ntmps47
    go_wp2_with (go_at_call 59; refine (bare_eq _ HB.out).mono ?_; rintro e w1 ⟨rfl, hb1, hc1⟩; have hq7 := hc1 ⟨w.heap.size, 7, none⟩ (.slice ka (ks.length) kc) (by simp))
    go_ret
    exact ⟨ret_bool HR.out.symm, ((Below.refl _ _).alloc (Nat.le_refl _) _).trans (hb1.mono (by simp))⟩
  | true =>
    have HB := Lib.hid hbv
    have HR : Hid (R = (decide (ks.length ≠ 1) && !anyK ks [0, 1])) := Lib.hid (by rw [HS.out, hbv]; rfl)
    clear hbv
    obtain ⟨b, hab⟩ : ∃ b, anyK ks [0, 1] = b := ⟨_, rfl⟩
    have HA := Lib.hid hab
    rw [hab] at HR
    clear hab
    rcases ks with _ | ⟨x, _ | ⟨y, ks⟩⟩
    · have HR2 : Hid (R = !b) := Lib.hid (by rw [HR.out]; simp)
      go_enter Tryd.func47, Tryd.ntmps47
      go_wp2_with (first | (((go_at_call 59; refine (bare_eq _ HB.out).mono ?_; rintro e w1 ⟨rfl, hb1, hc1⟩; have hq7 := hc1 ⟨w.heap.size, 7, none⟩ (.slice ka (0) kc) (by simp))); have HX1 := Lib.hid ((hx.later ((Below.refl _ _).alloc (Nat.le_refl _) _)).later hb1)) | (go_at_call 62; refine (some_eq (zs := [0, 1]) _ HA.out (HX1.out.later ((Below.refl _ _).alloc (Nat.le_refl _) _)) (by first | omega | (simp; omega)) (Sl.lit (n := 2) (heap_alloc_new w1 (.cells #[.int .i64 0, .int .i64 1] 3)) rfl) (by decide)).mono ?_; rintro e w2 ⟨rfl, hb2⟩))
      go_ret
      exact ⟨ret_bool HR2.out.symm, (((Below.refl _ _).alloc (Nat.le_refl _) _).trans (hb1.mono (by simp))).trans ((((Below.refl w1.heap.size w1).alloc (Nat.le_refl _) _).trans (hb2.mono (by simp))).mono (by have := hb1.size; simp at this; omega))⟩
    · have HR2 : Hid (R = false) := Lib.hid (by rw [HR.out]; rfl)
      go_enter Tryd.func47, Tryd.ntmps47
      go_wp2_with (go_at_call 59; refine (bare_eq _ HB.out).mono ?_; rintro e w1 ⟨rfl, hb1, hc1⟩; have hq7 := hc1 ⟨w.heap.size, 7, none⟩ (.slice ka (1) kc) (by simp))
      go_ret
      exact ⟨ret_bool HR2.out.symm, ((Below.refl _ _).alloc (Nat.le_refl _) _).trans (hb1.mono (by simp))⟩
    · have HR2 : Hid (R = !b) := Lib.hid (by rw [HR.out]; simp)
      simp only [List.length_cons] at s4
      go_enter Tryd.func47, Tryd.ntmps47
      go_wp2_with (first | (((go_at_call 59; refine (bare_eq _ HB.out).mono ?_; rintro e w1 ⟨rfl, hb1, hc1⟩; have hq7 := hc1 ⟨w.heap.size, 7, none⟩ (.slice ka (ks.length + 1 + 1) kc) (by simp))); have HX1 := Lib.hid ((hx.later ((Below.refl _ _).alloc (Nat.le_refl _) _)).later hb1)) | (go_at_call 62; refine (some_eq (zs := [0, 1]) _ HA.out (HX1.out.later ((Below.refl _ _).alloc (Nat.le_refl _) _)) (by first | omega | (simp; omega)) (Sl.lit (n := 2) (heap_alloc_new w1 (.cells #[.int .i64 0, .int .i64 1] 3)) rfl) (by decide)).mono ?_; rintro e w2 ⟨rfl, hb2⟩))
      go_ret
      exact ⟨ret_bool HR2.out.symm, (((Below.refl _ _).alloc (Nat.le_refl _) _).trans (hb1.mono (by simp))).trans ((((Below.refl w1.heap.size w1).alloc (Nat.le_refl _) _).trans (hb2.mono (by simp))).mono (by have := hb1.size; simp at this; omega))⟩
set_option maxHeartbeats 4000000 in
theorem fields_1 (S : Nat → Prop) (c : Str) (ng : Bool) (ra : Option Addr) (rs : List (Str × Str)) (rc : Nat) (lo hi : Int) (lz : Bool) (ka : Option Addr) (ks : List Rx) (kc : Nat) (w : World)
    (hx : RxSl w S ka ks.length ks) (hsm : (Rx.mk 1 c ng rs lo hi lz ks).small1) :
    Calls Tryd.prog 47 #[.agg #[.int .i64 1, .string ⟨(c).toArray⟩, .bool ng, .slice ra rs.length rc, .int .i64 lo, .int .i64 hi, .bool lz, .slice ka ks.length kc]] w fun e w' => e = .returned (.bool (fieldsB (.mk 1 c ng rs lo hi lz ks))) ∧ Below w.heap.size w w' := by
  generalize hR : fieldsB (.mk 1 c ng rs lo hi lz ks) = R
  have HR := Lib.hid hR
  clear hR
  have HS : Hid (R = (bareV c ng rs.length lo hi lz && decide (1 < ks.length) && !anyK ks [1])) := Lib.hid (by rw [← HR.out, ← bareB_eq 1 c ng rs lo hi lz ks, any_no1]; rfl)
  obtain ⟨s1, s2, s3, s4⟩ := hsm
  clear HR s3
  cases hbv : bareV c ng rs.length lo hi lz with
  | false =>
    have HB := Lib.hid hbv
    have HR : Hid (R = false) := Lib.hid (by rw [HS.out, hbv]; rfl)
    clear hbv
    go_enter Tryd.func47, Tryd.ntmps47
    go_wp2_with (go_at_call 59; refine (bare_eq _ HB.out).mono ?_; rintro e w1 ⟨rfl, hb1, hc1⟩; have hq7 := hc1 ⟨w.heap.size, 7, none⟩ (.slice ka (ks.length) kc) (by simp))
    go_ret
    exact ⟨ret_bool HR.out.symm, ((Below.refl _ _).alloc (Nat.le_refl _) _).trans (hb1.mono (by simp))⟩
  | true =>
    have HB := Lib.hid hbv
    have HR : Hid (R = (decide (1 < ks.length) && !anyK ks [1])) := Lib.hid (by rw [HS.out, hbv]; rfl)
    clear hbv
    obtain ⟨b, hab⟩ : ∃ b, anyK ks [1] = b := ⟨_, rfl⟩
    have HA := Lib.hid hab
    rw [hab] at HR
    clear hab
    rcases ks with _ | ⟨x, _ | ⟨y, ks⟩⟩
    · have HR2 : Hid (R = false) := Lib.hid (by rw [HR.out]; rfl)
      go_enter Tryd.func47, Tryd.ntmps47
      go_wp2_with (go_at_call 59; refine (bare_eq _ HB.out).mono ?_; rintro e w1 ⟨rfl, hb1, hc1⟩; have hq7 := hc1 ⟨w.heap.size, 7, none⟩ (.slice ka (0) kc) (by simp))
      go_ret
      exact ⟨ret_bool HR2.out.symm, ((Below.refl _ _).alloc (Nat.le_refl _) _).trans (hb1.mono (by simp))⟩
    · have HR2 : Hid (R = false) := Lib.hid (by rw [HR.out]; rfl)
      go_enter Tryd.func47, Tryd.ntmps47
      go_wp2_with (go_at_call 59; refine (bare_eq _ HB.out).mono ?_; rintro e w1 ⟨rfl, hb1, hc1⟩; have hq7 := hc1 ⟨w.heap.size, 7, none⟩ (.slice ka (1) kc) (by simp))
      go_ret
      exact ⟨ret_bool HR2.out.symm, ((Below.refl _ _).alloc (Nat.le_refl _) _).trans (hb1.mono (by simp))⟩
    · have HR2 : Hid (R = !b) := Lib.hid (by rw [HR.out]; simp)
      simp only [List.length_cons] at s4
      go_enter Tryd.func47, Tryd.ntmps47
      go_wp2_with (first | (((go_at_call 59; refine (bare_eq _ HB.out).mono ?_; rintro e w1 ⟨rfl, hb1, hc1⟩; have hq7 := hc1 ⟨w.heap.size, 7, none⟩ (.slice ka (ks.length + 1 + 1) kc) (by simp))); have HX1 := Lib.hid ((hx.later ((Below.refl _ _).alloc (Nat.le_refl _) _)).later hb1)) | (go_at_call 62; refine (some_eq (zs := [1]) _ HA.out (HX1.out.later ((Below.refl _ _).alloc (Nat.le_refl _) _)) (by first | omega | (simp; omega)) (Sl.lit (n := 1) (heap_alloc_new w1 (.cells #[.int .i64 1] 3)) rfl) (by decide)).mono ?_; rintro e w2 ⟨rfl, hb2⟩))
      go_ret
      exact ⟨ret_bool HR2.out.symm, (((Below.refl _ _).alloc (Nat.le_refl _) _).trans (hb1.mono (by simp))).trans ((((Below.refl w1.heap.size w1).alloc (Nat.le_refl _) _).trans (hb2.mono (by simp))).mono (by have := hb1.size; simp at this; omega))⟩
def oneB (ks : List Rx) : Bool := match ks with | [x] => repB x.kind | _ => false
theorem repeated_eq {k : Int} {b : Bool} (w : World) (h : repB k = b) : Calls Tryd.prog 61 #[.int .i64 k] w fun e w' => e = .returned (.bool b) ∧ w = w' := by
  subst h; exact repeated_any k w
set_option maxHeartbeats 4000000 in
theorem fields_7 (S : Nat → Prop) (c : Str) (ng : Bool) (ra : Option Addr) (rs : List (Str × Str)) (rc : Nat) (lo hi : Int) (lz : Bool) (ka : Option Addr) (ks : List Rx) (kc : Nat) (w : World)
    (hx : RxSl w S ka ks.length ks) (hsm : (Rx.mk 7 c ng rs lo hi lz ks).small1) :
    Calls Tryd.prog 47 #[.agg #[.int .i64 7, .string ⟨(c).toArray⟩, .bool ng, .slice ra rs.length rc, .int .i64 lo, .int .i64 hi, .bool lz, .slice ka ks.length kc]] w fun e w' => e = .returned (.bool (fieldsB (.mk 7 c ng rs lo hi lz ks))) ∧ Below w.heap.size w w' := by
  generalize hR : fieldsB (.mk 7 c ng rs lo hi lz ks) = R
  have HR := Lib.hid hR
  clear hR
  have HS : Hid (R = (bareV c ng rs.length 0 0 false && oneB ks && decide (0 ≤ lo ∧ lo ≤ 255 ∧ (hi = -1 ∨ lo ≤ hi ∧ hi ≤ 255)))) := Lib.hid (by rw [← HR.out, ← bareB_eq 7 c ng rs 0 0 false ks]; rfl)
  obtain ⟨s1, s2, s3, s4⟩ := hsm
  clear HR s3
  cases hbv : bareV c ng rs.length 0 0 false with
  | false =>
    have HB := Lib.hid hbv
    have HR : Hid (R = false) := Lib.hid (by rw [HS.out, hbv]; rfl)
    clear hbv
    go_enter Tryd.func47, Tryd.ntmps47
    go_wp2
    go_quiet (fail)
    go_wp2_with (go_at_call 59; refine (bare_eq _ HB.out).mono ?_; rintro e w1 ⟨rfl, hb1, hc1⟩; have hq7 := hc1 ⟨w.heap.size, 7, none⟩ (.slice ka (ks.length) kc) (by simp [go_sem]))
    go_ret
    exact ⟨ret_bool HR.out.symm, ((((below_drewN ((Below.refl w.heap.size w).alloc (Nat.le_refl _) _) _).setCell (by simp) _).setCell (by simp) _).setCell (by simp) _).trans (hb1.mono (by simp [World.setCell]))⟩
  | true =>
    have HB := Lib.hid hbv
    have HR : Hid (R = (oneB ks && decide (0 ≤ lo ∧ lo ≤ 255 ∧ (hi = -1 ∨ lo ≤ hi ∧ hi ≤ 255)))) := Lib.hid (by rw [HS.out, hbv]; rfl)
    clear hbv
    rcases ks with _ | ⟨x, _ | ⟨y, ks⟩⟩
    · have HR2 : Hid (R = false) := Lib.hid (by rw [HR.out]; rfl)
      go_enter Tryd.func47, Tryd.ntmps47
      go_wp2
      go_quiet (fail)
      go_wp2_with (go_at_call 59; refine (bare_eq _ HB.out).mono ?_; rintro e w1 ⟨rfl, hb1, hc1⟩; have hq7 := hc1 ⟨w.heap.size, 7, none⟩ (.slice ka (0) kc) (by simp [go_sem]))
      go_ret
      exact ⟨ret_bool HR2.out.symm, ((((below_drewN ((Below.refl w.heap.size w).alloc (Nat.le_refl _) _) _).setCell (by simp) _).setCell (by simp) _).setCell (by simp) _).trans (hb1.mono (by simp [World.setCell]))⟩
    · obtain ⟨xk, xc, xn, xr, xl, xh, xz, xs⟩ := x
      obtain ⟨b, o, _, _, _, _, rfl, _, hbB, _, _, _, q0, _⟩ := hx.cells (m := 0) rfl
      simp only [Nat.zero_mul, Nat.add_zero] at q0
      obtain ⟨rb, hrb⟩ : ∃ rb, repB xk = rb := ⟨_, rfl⟩
      have HRB := Lib.hid hrb
      have HR2 : Hid (R = (rb && decide (0 ≤ lo ∧ lo ≤ 255 ∧ (hi = -1 ∨ lo ≤ hi ∧ hi ≤ 255)))) := Lib.hid (by rw [HR.out, ← HRB.out]; rfl)
      clear hrb
      cases rb
      all_goals
        go_enter Tryd.func47, Tryd.ntmps47
        go_wp2
        go_quiet (fail)
        go_wp2_with (first | (go_at_call 59; refine (bare_eq _ HB.out).mono ?_; rintro e w1 ⟨rfl, hb1, hc1⟩; have hq7 := hc1 ⟨w.heap.size, 7, none⟩ (.slice (some ⟨b, o, none⟩) 1 kc) (by simp [go_sem]); have hq0 : w1.cell? ⟨b, o, none⟩ = some (.int .i64 xk) := hc1 _ _ (by simp [go_sem, World.cell?_alloc_lt, hbB, q0])) | (go_at_call 61; refine (repeated_eq _ HRB.out).mono ?_; rintro e w2 ⟨rfl, rfl⟩))
        all_goals
          go_ret
          refine ⟨ret_bool ?_, ((((below_drewN ((Below.refl w.heap.size w).alloc (Nat.le_refl _) _) _).setCell (by simp) _).setCell (by simp) _).setCell (by simp) _).trans (hb1.mono (by simp [World.setCell]))⟩
          rw [HR2.out]
          first | rfl | (rw [Bool.true_and, Bool.eq_iff_iff]; simp; omega)
    · have HR2 : Hid (R = false) := Lib.hid (by rw [HR.out]; rfl)
      go_enter Tryd.func47, Tryd.ntmps47
      go_wp2
      go_quiet (fail)
      go_wp2_with (go_at_call 59; refine (bare_eq _ HB.out).mono ?_; rintro e w1 ⟨rfl, hb1, hc1⟩; have hq7 := hc1 ⟨w.heap.size, 7, none⟩ (.slice ka (ks.length + 1 + 1) kc) (by simp [go_sem]))
      go_ret
      exact ⟨ret_bool HR2.out.symm, ((((below_drewN ((Below.refl w.heap.size w).alloc (Nat.le_refl _) _) _).setCell (by simp) _).setCell (by simp) _).setCell (by simp) _).trans (hb1.mono (by simp [World.setCell]))⟩
theorem fields_any (S : Nat → Prop) (K : Int) (c : Str) (ng : Bool) (ra : Option Addr) (rs : List (Str × Str)) (rc : Nat) (lo hi : Int) (lz : Bool) (ka : Option Addr) (ks : List Rx) (kc : Nat) (w : World)
    (hr : SlS w S ra 2 rs.length (rcells rs)) (hx : RxSl w S ka ks.length ks) (hsm : (Rx.mk K c ng rs lo hi lz ks).small1) :
    Calls Tryd.prog 47 #[.agg #[.int .i64 K, .string ⟨(c).toArray⟩, .bool ng, .slice ra rs.length rc, .int .i64 lo, .int .i64 hi, .bool lz, .slice ka ks.length kc]] w fun e w' => e = .returned (.bool (fieldsB (.mk K c ng rs lo hi lz ks))) ∧ Below w.heap.size w w' := by
  by_cases h0 : K = 0
  · subst h0; exact fields_0 S c ng ra rs rc lo hi lz ka ks kc w hx hsm
  by_cases h1 : K = 1
  · subst h1; exact fields_1 S c ng ra rs rc lo hi lz ka ks kc w hx hsm
  by_cases h2 : K = 2
  · subst h2; exact fields_2 c ng ra rs rc lo hi lz ka ks kc w hsm
  by_cases h4 : K = 4
  · subst h4; exact fields_4 c ng ra rs rc lo hi lz ka ks kc w hr.sl hsm
  by_cases h7 : K = 7
  · subst h7; exact fields_7 S c ng ra rs rc lo hi lz ka ks kc w hx hsm
  by_cases h5 : K = 5 ∨ K = 6
  · exact fields_one K h5 c ng ra rs rc lo hi lz ka ks kc w hsm
  by_cases h3 : K = 3 ∨ K = 8 ∨ K = 9 ∨ K = 10 ∨ K = 11
  · exact fields_none K h3 c ng ra rs rc lo hi lz ka ks kc w hsm
  · exact fields_else K (by omega) c ng ra rs.length rs rc lo hi lz ka ks.length ks kc w
end Go.Proofs.YtpggnfpjjppbmaaDoor
