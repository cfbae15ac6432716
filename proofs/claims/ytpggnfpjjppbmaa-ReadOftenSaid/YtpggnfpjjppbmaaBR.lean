/- walk of rxtree.fields: the rest -/
import Derived.Test.YtpggnfpjjppbmaaR5
set_option maxRecDepth 100000
namespace Go.Proofs.Ytpggnfpjjppbmaa
open Go.RowKit
theorem any_no2 (ks : List Rx) : (!anyK ks [0, 1]) = ks.all fun x => decide (x.kind ≠ 0 ∧ x.kind ≠ 1) := by
  induction ks with
  | nil => rfl
  | cons x r ih =>
    simp only [anyK, List.any_cons, List.all_cons, Bool.not_or] at *
    rw [ih]; congr 1
    rw [Bool.eq_iff_iff]; simp
theorem any_no1 (ks : List Rx) : (!anyK ks [1]) = ks.all fun x => decide (x.kind ≠ 1) := by
  induction ks with
  | nil => rfl
  | cons x r ih =>
    simp only [anyK, List.any_cons, List.all_cons, Bool.not_or] at *
    rw [ih]; congr 1
    rw [Bool.eq_iff_iff]; simp
theorem some_eq {S : Nat → Prop} {xa : Option Addr} {xc m : Nat} {xs : List Rx} {zs : List Int} {a : Option Addr} {n c : Nat} {b : Bool} (w : World) (h0 : anyK xs zs = b)
    (hx : RxSl w S xa m xs) (hxn : xs.length ≤ 100000000) (h : Sl w w.heap.size a 1 n (icells zs)) (hn : n ≤ 100000000) :
    Calls Try.prog 68 #[.slice xa m xc, .slice a n c] w fun e w' => e = .returned (.bool b) ∧ Below w.heap.size w w' := by
  obtain rfl := hx.len
  subst h0
  exact some_any S xa xc xs zs a n c w hx hxn h hn
set_option maxHeartbeats 4000000 in
theorem fields_0 (S : Nat → Prop) (c : Str) (ng : Bool) (ra : Option Addr) (rs : List (Str × Str)) (rc : Nat) (lo hi : Int) (lz : Bool) (ka : Option Addr) (ks : List Rx) (kc : Nat) (w : World)
    (hx : RxSl w S ka ks.length ks) (hsm : (Rx.mk 0 c ng rs lo hi lz ks).small1) :
    Calls Try.prog 56 #[.agg #[.int .i64 0, .string ⟨(c).toArray⟩, .bool ng, .slice ra rs.length rc, .int .i64 lo, .int .i64 hi, .bool lz, .slice ka ks.length kc]] w fun e w' => e = .returned (.bool (fieldsB (.mk 0 c ng rs lo hi lz ks))) ∧ Below w.heap.size w w' := by
  generalize hR : fieldsB (.mk 0 c ng rs lo hi lz ks) = R
  have HR := Lib.hid hR
  clear hR
  have HS : Hid (R = (bareV c ng rs.length lo hi lz && decide (ks.length ≠ 1) && !anyK ks [0, 1])) := Lib.hid (by rw [← HR.out, ← bareB_eq 0 c ng rs lo hi lz ks, any_no2]; rfl)
  obtain ⟨s1, s2, s3, s4⟩ := hsm
  clear HR s3
  cases hbv : bareV c ng rs.length lo hi lz with
  | false =>
    have HB := Lib.hid hbv
    have HR : Hid (R = false) := Lib.hid (by rw [HS.out, hbv]; rfl)
    clear hbv
    go_enter Try.func56, Try.ntmps56
    go_wp2_with (go_at_call 65; refine (bare_eq _ HB.out).mono ?_; rintro e w1 ⟨rfl, hb1, hc1⟩; have hq7 := hc1 ⟨w.heap.size, 7, none⟩ (.slice ka (ks.length) kc) (by simp))
    go_ret
    exact ⟨ret_bool HR.out.symm, ((Below.refl _ _).alloc (Nat.le_refl _) _).trans (hb1.mono (by simp))⟩
  | true =>
    have HB := Lib.hid hbv
    have HR : Hid (R = (decide (ks.length ≠ 1) && !anyK ks [0, 1])) := Lib.hid (by rw [HS.out, hbv]; rfl)
    clear hbv
    obtain ⟨b, hab⟩ : ∃ b, anyK ks [0, 1] = b := ⟨_, rfl⟩
    have HA := Lib.hid hab
    rw [hab] at HR
    clear hab
    rcases ks with _ | ⟨x, _ | ⟨y, ks⟩⟩
    · have HR2 : Hid (R = !b) := Lib.hid (by rw [HR.out]; simp)
      go_enter Try.func56, Try.ntmps56
      go_wp2_with (first | (((go_at_call 65; refine (bare_eq _ HB.out).mono ?_; rintro e w1 ⟨rfl, hb1, hc1⟩; have hq7 := hc1 ⟨w.heap.size, 7, none⟩ (.slice ka (0) kc) (by simp))); have HX1 := Lib.hid ((hx.later ((Below.refl _ _).alloc (Nat.le_refl _) _)).later hb1)) | (go_at_call 68; refine (some_eq (zs := [0, 1]) _ HA.out (HX1.out.later ((Below.refl _ _).alloc (Nat.le_refl _) _)) (by first | omega | (simp; omega)) (Sl.lit (n := 2) (heap_alloc_new w1 (.cells #[.int .i64 0, .int .i64 1] 3)) rfl) (by decide)).mono ?_; rintro e w2 ⟨rfl, hb2⟩))
      go_ret
      exact ⟨ret_bool HR2.out.symm, (((Below.refl _ _).alloc (Nat.le_refl _) _).trans (hb1.mono (by simp))).trans ((((Below.refl w1.heap.size w1).alloc (Nat.le_refl _) _).trans (hb2.mono (by simp))).mono (by have := hb1.size; simp at this; omega))⟩
    · have HR2 : Hid (R = false) := Lib.hid (by rw [HR.out]; rfl)
      go_enter Try.func56, Try.ntmps56
      go_wp2_with (go_at_call 65; refine (bare_eq _ HB.out).mono ?_; rintro e w1 ⟨rfl, hb1, hc1⟩; have hq7 := hc1 ⟨w.heap.size, 7, none⟩ (.slice ka (1) kc) (by simp))
      go_ret
      exact ⟨ret_bool HR2.out.symm, ((Below.refl _ _).alloc (Nat.le_refl _) _).trans (hb1.mono (by simp))⟩
    · have HR2 : Hid (R = !b) := Lib.hid (by rw [HR.out]; simp)
      simp only [List.length_cons] at s4
      go_enter Try.func56, Try.ntmps56
      go_wp2_with (first | (((go_at_call 65; refine (bare_eq _ HB.out).mono ?_; rintro e w1 ⟨rfl, hb1, hc1⟩; have hq7 := hc1 ⟨w.heap.size, 7, none⟩ (.slice ka (ks.length + 1 + 1) kc) (by simp))); have HX1 := Lib.hid ((hx.later ((Below.refl _ _).alloc (Nat.le_refl _) _)).later hb1)) | (go_at_call 68; refine (some_eq (zs := [0, 1]) _ HA.out (HX1.out.later ((Below.refl _ _).alloc (Nat.le_refl _) _)) (by first | omega | (simp; omega)) (Sl.lit (n := 2) (heap_alloc_new w1 (.cells #[.int .i64 0, .int .i64 1] 3)) rfl) (by decide)).mono ?_; rintro e w2 ⟨rfl, hb2⟩))
      go_ret
      exact ⟨ret_bool HR2.out.symm, (((Below.refl _ _).alloc (Nat.le_refl _) _).trans (hb1.mono (by simp))).trans ((((Below.refl w1.heap.size w1).alloc (Nat.le_refl _) _).trans (hb2.mono (by simp))).mono (by have := hb1.size; simp at this; omega))⟩
set_option maxHeartbeats 4000000 in
theorem fields_1 (S : Nat → Prop) (c : Str) (ng : Bool) (ra : Option Addr) (rs : List (Str × Str)) (rc : Nat) (lo hi : Int) (lz : Bool) (ka : Option Addr) (ks : List Rx) (kc : Nat) (w : World)
    (hx : RxSl w S ka ks.length ks) (hsm : (Rx.mk 1 c ng rs lo hi lz ks).small1) :
    Calls Try.prog 56 #[.agg #[.int .i64 1, .string ⟨(c).toArray⟩, .bool ng, .slice ra rs.length rc, .int .i64 lo, .int .i64 hi, .bool lz, .slice ka ks.length kc]] w fun e w' => e = .returned (.bool (fieldsB (.mk 1 c ng rs lo hi lz ks))) ∧ Below w.heap.size w w' := by
  generalize hR : fieldsB (.mk 1 c ng rs lo hi lz ks) = R
  have HR := Lib.hid hR
  clear hR
  have HS : Hid (R = (bareV c ng rs.length lo hi lz && decide (1 < ks.length) && !anyK ks [1])) := Lib.hid (by rw [← HR.out, ← bareB_eq 1 c ng rs lo hi lz ks, any_no1]; rfl)
  obtain ⟨s1, s2, s3, s4⟩ := hsm
  clear HR s3
  cases hbv : bareV c ng rs.length lo hi lz with
  | false =>
    have HB := Lib.hid hbv
    have HR : Hid (R = false) := Lib.hid (by rw [HS.out, hbv]; rfl)
    clear hbv
    go_enter Try.func56, Try.ntmps56
    go_wp2_with (go_at_call 65; refine (bare_eq _ HB.out).mono ?_; rintro e w1 ⟨rfl, hb1, hc1⟩; have hq7 := hc1 ⟨w.heap.size, 7, none⟩ (.slice ka (ks.length) kc) (by simp))
    go_ret
    exact ⟨ret_bool HR.out.symm, ((Below.refl _ _).alloc (Nat.le_refl _) _).trans (hb1.mono (by simp))⟩
  | true =>
    have HB := Lib.hid hbv
    have HR : Hid (R = (decide (1 < ks.length) && !anyK ks [1])) := Lib.hid (by rw [HS.out, hbv]; rfl)
    clear hbv
    obtain ⟨b, hab⟩ : ∃ b, anyK ks [1] = b := ⟨_, rfl⟩
    have HA := Lib.hid hab
    rw [hab] at HR
    clear hab
    rcases ks with _ | ⟨x, _ | ⟨y, ks⟩⟩
    · have HR2 : Hid (R = false) := Lib.hid (by rw [HR.out]; rfl)
      go_enter Try.func56, Try.ntmps56
      go_wp2_with (go_at_call 65; refine (bare_eq _ HB.out).mono ?_; rintro e w1 ⟨rfl, hb1, hc1⟩; have hq7 := hc1 ⟨w.heap.size, 7, none⟩ (.slice ka (0) kc) (by simp))
      go_ret
      exact ⟨ret_bool HR2.out.symm, ((Below.refl _ _).alloc (Nat.le_refl _) _).trans (hb1.mono (by simp))⟩
    · have HR2 : Hid (R = false) := Lib.hid (by rw [HR.out]; rfl)
      go_enter Try.func56, Try.ntmps56
      go_wp2_with (go_at_call 65; refine (bare_eq _ HB.out).mono ?_; rintro e w1 ⟨rfl, hb1, hc1⟩; have hq7 := hc1 ⟨w.heap.size, 7, none⟩ (.slice ka (1) kc) (by simp))
      go_ret
      exact ⟨ret_bool HR2.out.symm, ((Below.refl _ _).alloc (Nat.le_refl _) _).trans (hb1.mono (by simp))⟩
    · have HR2 : Hid (R = !b) := Lib.hid (by rw [HR.out]; simp)
      simp only [List.length_cons] at s4
      go_enter Try.func56, Try.ntmps56
      go_wp2_with (first | (((go_at_call 65; refine (bare_eq _ HB.out).mono ?_; rintro e w1 ⟨rfl, hb1, hc1⟩; have hq7 := hc1 ⟨w.heap.size, 7, none⟩ (.slice ka (ks.length + 1 + 1) kc) (by simp))); have HX1 := Lib.hid ((hx.later ((Below.refl _ _).alloc (Nat.le_refl _) _)).later hb1)) | (go_at_call 68; refine (some_eq (zs := [1]) _ HA.out (HX1.out.later ((Below.refl _ _).alloc (Nat.le_refl _) _)) (by first | omega | (simp; omega)) (Sl.lit (n := 1) (heap_alloc_new w1 (.cells #[.int .i64 1] 3)) rfl) (by decide)).mono ?_; rintro e w2 ⟨rfl, hb2⟩))
      go_ret
      exact ⟨ret_bool HR2.out.symm, (((Below.refl _ _).alloc (Nat.le_refl _) _).trans (hb1.mono (by simp))).trans ((((Below.refl w1.heap.size w1).alloc (Nat.le_refl _) _).trans (hb2.mono (by simp))).mono (by have := hb1.size; simp at this; omega))⟩
def oneB (ks : List Rx) : Bool := match ks with | [x] => repB x.kind | _ => false
theorem repeated_eq {k : Int} {b : Bool} (w : World) (h : repB k = b) : Calls Try.prog 67 #[.int .i64 k] w fun e w' => e = .returned (.bool b) ∧ w = w' := by
  subst h; exact repeated_any k w
set_option maxHeartbeats 4000000 in
theorem fields_7 (S : Nat → Prop) (c : Str) (ng : Bool) (ra : Option Addr) (rs : List (Str × Str)) (rc : Nat) (lo hi : Int) (lz : Bool) (ka : Option Addr) (ks : List Rx) (kc : Nat) (w : World)
    (hx : RxSl w S ka ks.length ks) (hsm : (Rx.mk 7 c ng rs lo hi lz ks).small1) :
    Calls Try.prog 56 #[.agg #[.int .i64 7, .string ⟨(c).toArray⟩, .bool ng, .slice ra rs.length rc, .int .i64 lo, .int .i64 hi, .bool lz, .slice ka ks.length kc]] w fun e w' => e = .returned (.bool (fieldsB (.mk 7 c ng rs lo hi lz ks))) ∧ Below w.heap.size w w' := by
  generalize hR : fieldsB (.mk 7 c ng rs lo hi lz ks) = R
  have HR := Lib.hid hR
  clear hR
  have HS : Hid (R = (bareV c ng rs.length 0 0 false && oneB ks && decide (0 ≤ lo ∧ lo ≤ 255 ∧ (hi = -1 ∨ lo ≤ hi ∧ hi ≤ 255)))) := Lib.hid (by rw [← HR.out, ← bareB_eq 7 c ng rs 0 0 false ks]; rfl)
  obtain ⟨s1, s2, s3, s4⟩ := hsm
  clear HR s3
  cases hbv : bareV c ng rs.length 0 0 false with
  | false =>
    have HB := Lib.hid hbv
    have HR : Hid (R = false) := Lib.hid (by rw [HS.out, hbv]; rfl)
    clear hbv
    go_enter Try.func56, Try.ntmps56
    go_wp2
    go_quiet (fail)
    go_wp2_with (go_at_call 65; refine (bare_eq _ HB.out).mono ?_; rintro e w1 ⟨rfl, hb1, hc1⟩; have hq7 := hc1 ⟨w.heap.size, 7, none⟩ (.slice ka (ks.length) kc) (by simp [go_sem]))
    go_ret
    exact ⟨ret_bool HR.out.symm, ((((below_drewN ((Below.refl w.heap.size w).alloc (Nat.le_refl _) _) _).setCell (by simp) _).setCell (by simp) _).setCell (by simp) _).trans (hb1.mono (by simp [World.setCell]))⟩
  | true =>
    have HB := Lib.hid hbv
    have HR : Hid (R = (oneB ks && decide (0 ≤ lo ∧ lo ≤ 255 ∧ (hi = -1 ∨ lo ≤ hi ∧ hi ≤ 255)))) := Lib.hid (by rw [HS.out, hbv]; rfl)
    clear hbv
    rcases ks with _ | ⟨x, _ | ⟨y, ks⟩⟩
    · have HR2 : Hid (R = false) := Lib.hid (by rw [HR.out]; rfl)
      go_enter Try.func56, Try.ntmps56
      go_wp2
      go_quiet (fail)
      go_wp2_with (go_at_call 65; refine (bare_eq _ HB.out).mono ?_; rintro e w1 ⟨rfl, hb1, hc1⟩; have hq7 := hc1 ⟨w.heap.size, 7, none⟩ (.slice ka (0) kc) (by simp [go_sem]))
      go_ret
      exact ⟨ret_bool HR2.out.symm, ((((below_drewN ((Below.refl w.heap.size w).alloc (Nat.le_refl _) _) _).setCell (by simp) _).setCell (by simp) _).setCell (by simp) _).trans (hb1.mono (by simp [World.setCell]))⟩
    · obtain ⟨xk, xc, xn, xr, xl, xh, xz, xs⟩ := x
      obtain ⟨b, o, _, _, _, _, rfl, _, hbB, _, _, _, q0, _⟩ := hx.cells (m := 0) rfl
      simp only [Nat.zero_mul, Nat.add_zero] at q0
      obtain ⟨rb, hrb⟩ : ∃ rb, repB xk = rb := ⟨_, rfl⟩
      have HRB := Lib.hid hrb
      have HR2 : Hid (R = (rb && decide (0 ≤ lo ∧ lo ≤ 255 ∧ (hi = -1 ∨ lo ≤ hi ∧ hi ≤ 255)))) := Lib.hid (by rw [HR.out, ← HRB.out]; rfl)
      clear hrb
      cases rb
      all_goals
        go_enter Try.func56, Try.ntmps56
        go_wp2
        go_quiet (fail)
        go_wp2_with (first | (go_at_call 65; refine (bare_eq _ HB.out).mono ?_; rintro e w1 ⟨rfl, hb1, hc1⟩; have hq7 := hc1 ⟨w.heap.size, 7, none⟩ (.slice (some ⟨b, o, none⟩) 1 kc) (by simp [go_sem]); have hq0 : w1.cell? ⟨b, o, none⟩ = some (.int .i64 xk) := hc1 _ _ (by simp [go_sem, World.cell?_alloc_lt, hbB, q0])) | (go_at_call 67; refine (repeated_eq _ HRB.out).mono ?_; rintro e w2 ⟨rfl, rfl⟩))
        all_goals
          go_ret
          refine ⟨ret_bool ?_, ((((below_drewN ((Below.refl w.heap.size w).alloc (Nat.le_refl _) _) _).setCell (by simp) _).setCell (by simp) _).setCell (by simp) _).trans (hb1.mono (by simp [World.setCell]))⟩
          rw [HR2.out]
          first | rfl | (rw [Bool.true_and, Bool.eq_iff_iff]; simp; omega)
    · have HR2 : Hid (R = false) := Lib.hid (by rw [HR.out]; rfl)
      go_enter Try.func56, Try.ntmps56
      go_wp2
      go_quiet (fail)
      go_wp2_with (go_at_call 65; refine (bare_eq _ HB.out).mono ?_; rintro e w1 ⟨rfl, hb1, hc1⟩; have hq7 := hc1 ⟨w.heap.size, 7, none⟩ (.slice ka (ks.length + 1 + 1) kc) (by simp [go_sem]))
      go_ret
      exact ⟨ret_bool HR2.out.symm, ((((below_drewN ((Below.refl w.heap.size w).alloc (Nat.le_refl _) _) _).setCell (by simp) _).setCell (by simp) _).setCell (by simp) _).trans (hb1.mono (by simp [World.setCell]))⟩
theorem fields_any (S : Nat → Prop) (K : Int) (c : Str) (ng : Bool) (ra : Option Addr) (rs : List (Str × Str)) (rc : Nat) (lo hi : Int) (lz : Bool) (ka : Option Addr) (ks : List Rx) (kc : Nat) (w : World)
    (hr : SlS w S ra 2 rs.length (rcells rs)) (hx : RxSl w S ka ks.length ks) (hsm : (Rx.mk K c ng rs lo hi lz ks).small1) :
    Calls Try.prog 56 #[.agg #[.int .i64 K, .string ⟨(c).toArray⟩, .bool ng, .slice ra rs.length rc, .int .i64 lo, .int .i64 hi, .bool lz, .slice ka ks.length kc]] w fun e w' => e = .returned (.bool (fieldsB (.mk K c ng rs lo hi lz ks))) ∧ Below w.heap.size w w' := by
  by_cases h0 : K = 0
  · subst h0; exact fields_0 S c ng ra rs rc lo hi lz ka ks kc w hx hsm
  by_cases h1 : K = 1
  · subst h1; exact fields_1 S c ng ra rs rc lo hi lz ka ks kc w hx hsm
  by_cases h2 : K = 2
  · subst h2; exact fields_2 c ng ra rs rc lo hi lz ka ks kc w hsm
  by_cases h4 : K = 4
  · subst h4; exact fields_4 c ng ra rs rc lo hi lz ka ks kc w hr.sl hsm
  by_cases h7 : K = 7
  · subst h7; exact fields_7 S c ng ra rs rc lo hi lz ka ks kc w hx hsm
  by_cases h5 : K = 5 ∨ K = 6
  · exact fields_one K h5 c ng ra rs rc lo hi lz ka ks kc w hsm
  by_cases h3 : K = 3 ∨ K = 8 ∨ K = 9 ∨ K = 10 ∨ K = 11
  · exact fields_none K h3 c ng ra rs rc lo hi lz ka ks kc w hsm
  · exact fields_else K (by omega) c ng ra rs.length rs rc lo hi lz ka ks.length ks kc w
end Go.Proofs.Ytpggnfpjjppbmaa
set_option maxRecDepth 100000
namespace Go.Proofs.Ytpggnfpjjppbmaa
open Go.RowKit
theorem partsL_drop : ∀ (ks : List Rx) (k : Nat), Rx.partsL (ks.drop k) ≤ Rx.partsL ks
  | [], k => by simp
  | x :: r, 0 => by simp
  | x :: r, k + 1 => by have := partsL_drop r k; simp only [List.drop_succ_cons, Rx.partsL]; omega
theorem deepL_parts (ks : List Rx) : Rx.deepL ks ≤ Rx.partsL ks := by
  induction ks with
  | nil => simp [Rx.deepL]
  | cons x r ih => have := Rx.deep_parts x; simp only [Rx.deepL, Rx.partsL]; omega
theorem groupsL_parts (ks : List Rx) : Rx.groupsL ks ≤ Rx.partsL ks := by
  induction ks with
  | nil => simp [Rx.groupsL]
  | cons x r ih => have := Rx.groups_parts x; simp only [Rx.groupsL, Rx.partsL]; omega
def SumRel (ks : List Rx) (f : List Rx → Nat) (op : Nat → Nat → Nat) (R : Nat) (w : World) (t q : Value) (wr : World) : Prop :=
  ∃ (k d : Nat), k ≤ ks.length ∧ q = .int .i64 k ∧ t = .int .i64 d ∧ d ≤ 100000000 ∧ Below w.heap.size w wr ∧ Hid (op d (f (ks.drop k)) = R)
set_option maxHeartbeats 1000000 in
theorem Deep_any (S : Nat → Prop) : ∀ (N : Nat) (x : Rx), x.parts ≤ N → x.parts ≤ 1000000 → ∀ (cc : List Value) (w : World), RxV w S cc x →
    Calls Try.prog 24 #[.agg cc.toArray] w fun e w' => e = .returned (.int .i64 x.deep) ∧ Below w.heap.size w w'
  | 0, x, h, _, _, _, _ => by have := Rx.parts_pos x; omega
  | N + 1, .mk k c ng rs lo hi lz ks, h, hm, cc, w, hv => by
    obtain ⟨ra, rc, ka, kc, rfl, hrs, hx⟩ := hv.open_
    simp only [Rx.parts] at h hm
    have hlen := Rx.len_parts ks
    have hdl := deepL_parts ks
    have ih := fun (y : Rx) (hy : y.parts ≤ Rx.partsL ks) => Deep_any S N y (by omega) (by omega)
    have IH := Lib.hid ih
    have HX := Lib.hid (hx.later ((Below.refl w.heap.size w).alloc (Nat.le_refl _) (.cells #[.int .i64 k, .string ⟨(c).toArray⟩, .bool ng, .slice ra rs.length rc, .int .i64 lo, .int .i64 hi, .bool lz, .slice ka ks.length kc] 26)))
    obtain ⟨w0, hw0⟩ : ∃ w0, w0 = w.alloc (.cells #[.int .i64 k, .string ⟨(c).toArray⟩, .bool ng, .slice ra rs.length rc, .int .i64 lo, .int .i64 hi, .bool lz, .slice ka ks.length kc] 26) := ⟨_, rfl⟩
    have hb0 : Below w.heap.size w w0 := by rw [hw0]; exact (Below.refl _ _).alloc (Nat.le_refl _) _
    have z0 : w0.cell? ⟨w.heap.size, 0, none⟩ = some (.int .i64 k) := by rw [hw0]; simp
    rw [← hw0] at HX
    obtain ⟨R, hR⟩ : ∃ R, Rx.deepL ks = R := ⟨_, rfl⟩
    have HR0 : Hid (max 0 (Rx.deepL (ks.drop 0)) = R) := Lib.hid (by simpa using hR)
    have HD : Hid ((Rx.mk k c ng rs lo hi lz ks).deep = R + if k = 5 ∨ k = 6 then 1 else 0) := Lib.hid (by rw [← hR]; rfl)
    have hR6 : R ≤ 1000000 := by omega
    rw [HD.out]
    clear hR hx hv hrs ih hdl
    unfold rxc
    go_enter Try.func24, Try.ntmps24
    go_wp2
    rw [← hw0]
    have HW0 := Lib.hid hw0
    have Z0 := Lib.hid z0
    clear hw0 z0
    go_loopw [3, 9] (fun t q wr => SumRel ks Rx.deepL max R w0 t q wr) (fun _ q _ => ks.length - (intOf q).toNat)
    case atStart => exact ⟨0, 0, by omega, rfl, rfl, by omega, Below.refl _ _, HR0⟩
    case round =>
      obtain ⟨i, d, hi, rfl, rfl, hd9, hb, HF⟩ := hrel
      clear HR0
      have hB := hb.size
      cases hd : ks.drop i with
      | nil =>
        have h2 : ks.length ≤ i := by simpa using hd
        have HE : Hid (d = R) := Lib.hid (by rw [← HF.out, hd]; simp [Rx.deepL])
        have z1 : wr.cell? ⟨w.heap.size, 0, none⟩ = some (.int .i64 k) := cell_kept hb _ _ Z0.out
        clear hd HF
        have hbb := hb0.trans (hb.mono hb0.size)
        by_cases hg : k = 5 ∨ k = 6
        · have hg2 : grpB k = true := by simp [grpB, hg]
          have HG := Lib.hid hg
          clear hg
          go_wp2_with (go_at_call 42; refine (group_any _ _).mono ?_; rintro e w1 ⟨rfl, rfl⟩; rw [hg2])
          go_ret
          exact ⟨ret_int (by have := HE.out; omega), hbb⟩
        · have hg2 : grpB k = false := by simp [grpB, hg]
          have HG := Lib.hid hg
          clear hg
          go_wp2_with (go_at_call 42; refine (group_any _ _).mono ?_; rintro e w1 ⟨rfl, rfl⟩; rw [hg2])
          go_ret
          exact ⟨ret_int (by have := HE.out; omega), hbb⟩
      | cons y r =>
        obtain ⟨h2, h3, hr⟩ := ldrop_cons hd
        obtain ⟨yk, yc, yn, yr, yl, yh, yz, ys⟩ := y
        obtain ⟨b, o, ya, yrc, yka, ykc, rfl, hS, hbB, _, _, hyv, c0, c1, c2, c3, c4, c5, c6, c7⟩ := (HX.out.later hb).cells h3
        have hyp := Rx.parts_mem (List.mem_of_getElem? h3)
        have Hr := Lib.hid hr
        have HE : Hid (max d (max (Rx.deep (.mk yk yc yn yr yl yh yz ys)) (Rx.deepL r)) = R) := Lib.hid (by rw [← HF.out, hd]; rfl)
        have hyd := Rx.deep_parts (.mk yk yc yn yr yl yh yz ys)
        have HYV := Lib.hid (hyv.later ((Below.refl wr.heap.size wr).alloc (Nat.le_refl _) (.cells (rxc yk yc yn ya yr.length yrc yl yh yz yka ys.length ykc).toArray 26)))
        unfold rxc at HYV
        clear hd HF hr h3 hyv
        go_wp2_with (go_at_call 24; refine (IH.out _ hyp _ _ HYV.out).mono ?_; rintro e w1 ⟨rfl, hb1⟩)
        go_roundw
        case rel => exact ⟨i + 1, max d (Rx.deep (.mk yk yc yn yr yl yh yz ys)), by omega, by go_num, by simp; split <;> omega, by omega, (hb.alloc hB _).trans (hb1.mono (by simp; omega)), Lib.hid (by rw [Hr.out, ← HE.out]; omega)⟩
        case measure => simp [intOf]; omega
set_option maxHeartbeats 1000000 in
theorem Groups_any (S : Nat → Prop) : ∀ (N : Nat) (x : Rx), x.parts ≤ N → x.parts ≤ 1000000 → ∀ (cc : List Value) (w : World), RxV w S cc x →
    Calls Try.prog 26 #[.agg cc.toArray] w fun e w' => e = .returned (.int .i64 x.groups) ∧ Below w.heap.size w w'
  | 0, x, h, _, _, _, _ => by have := Rx.parts_pos x; omega
  | N + 1, .mk k c ng rs lo hi lz ks, h, hm, cc, w, hv => by
    obtain ⟨ra, rc, ka, kc, rfl, hrs, hx⟩ := hv.open_
    simp only [Rx.parts] at h hm
    have hlen := Rx.len_parts ks
    have hdl := groupsL_parts ks
    have ih := fun (y : Rx) (hy : y.parts ≤ Rx.partsL ks) => Groups_any S N y (by omega) (by omega)
    have IH := Lib.hid ih
    have HX := Lib.hid (hx.later ((Below.refl w.heap.size w).alloc (Nat.le_refl _) (.cells #[.int .i64 k, .string ⟨(c).toArray⟩, .bool ng, .slice ra rs.length rc, .int .i64 lo, .int .i64 hi, .bool lz, .slice ka ks.length kc] 26)))
    obtain ⟨w0, hw0⟩ : ∃ w0, w0 = w.alloc (.cells #[.int .i64 k, .string ⟨(c).toArray⟩, .bool ng, .slice ra rs.length rc, .int .i64 lo, .int .i64 hi, .bool lz, .slice ka ks.length kc] 26) := ⟨_, rfl⟩
    have hb0 : Below w.heap.size w w0 := by rw [hw0]; exact (Below.refl _ _).alloc (Nat.le_refl _) _
    have z0 : w0.cell? ⟨w.heap.size, 0, none⟩ = some (.int .i64 k) := by rw [hw0]; simp
    rw [← hw0] at HX
    obtain ⟨R, hR⟩ : ∃ R, (Rx.mk k c ng rs lo hi lz ks).groups = R := ⟨_, rfl⟩
    have hR6 : R ≤ 1000000 := by have := Rx.groups_parts (.mk k c ng rs lo hi lz ks); simp only [Rx.parts] at this; omega
    have HR1 : Hid ((if k = 5 then 1 else 0) + Rx.groupsL (ks.drop 0) = R) := Lib.hid hR
    rw [hR]
    clear hR hx hv hrs ih hdl
    unfold rxc
    by_cases hk5 : k = 5
    · have HR0 : Hid (1 + Rx.groupsL (ks.drop 0) = R) := Lib.hid (by rw [← HR1.out, if_pos hk5])
      have e5 : (k == 5) = true := by simpa using hk5
      clear hk5 HR1
      go_enter Try.func26, Try.ntmps26
      go_wp2
      rw [← hw0]
      clear hw0 z0
      go_loopw [3, 12] (fun t q wr => SumRel ks Rx.groupsL (· + ·) R w0 t q wr) (fun _ q _ => ks.length - (intOf q).toNat)
      case atStart => exact ⟨0, 1, by omega, rfl, rfl, by omega, Below.refl _ _, HR0⟩
      case round =>
        obtain ⟨i, d, hi, rfl, rfl, hd9, hb, HF⟩ := hrel
        clear HR0
        have hB := hb.size
        cases hd : ks.drop i with
        | nil =>
          have h2 : ks.length ≤ i := by simpa using hd
          have HE : Hid (d = R) := Lib.hid (by rw [← HF.out, hd]; simp [Rx.groupsL])
          clear hd HF
          have hbb := hb0.trans (hb.mono hb0.size)
          go_wp2
          go_ret
          exact ⟨ret_int (by have := HE.out; omega), hbb⟩
        | cons y r =>
          obtain ⟨h2, h3, hr⟩ := ldrop_cons hd
          obtain ⟨yk, yc, yn, yr, yl, yh, yz, ys⟩ := y
          obtain ⟨b, o, ya, yrc, yka, ykc, rfl, hS, hbB, _, _, hyv, c0, c1, c2, c3, c4, c5, c6, c7⟩ := (HX.out.later hb).cells h3
          have hyp := Rx.parts_mem (List.mem_of_getElem? h3)
          have Hr := Lib.hid hr
          have HE : Hid (d + (Rx.groups (.mk yk yc yn yr yl yh yz ys) + Rx.groupsL r) = R) := Lib.hid (by rw [← HF.out, hd]; rfl)
          have hle : d + Rx.groups (.mk yk yc yn yr yl yh yz ys) ≤ 1000000 := by have := HE.out; omega
          have HYV := Lib.hid (hyv.later ((Below.refl wr.heap.size wr).alloc (Nat.le_refl _) (.cells (rxc yk yc yn ya yr.length yrc yl yh yz yka ys.length ykc).toArray 26)))
          unfold rxc at HYV
          clear hd HF hr h3 hyv
          go_wp2_with (go_at_call 26; refine (IH.out _ hyp _ _ HYV.out).mono ?_; rintro e w1 ⟨rfl, hb1⟩)
          go_roundw
          case rel => exact ⟨i + 1, d + Rx.groups (.mk yk yc yn yr yl yh yz ys), by omega, by go_num, by go_num, by omega, (hb.alloc hB _).trans (hb1.mono (by simp; omega)), Lib.hid (by rw [Hr.out]; have h := HE.out; show d + Rx.groups (.mk yk yc yn yr yl yh yz ys) + Rx.groupsL r = R; omega)⟩
          case measure => simp [intOf]; omega
    · have HR0 : Hid (0 + Rx.groupsL (ks.drop 0) = R) := Lib.hid (by rw [← HR1.out, if_neg hk5])
      have e5 : (k == 5) = false := by simpa using hk5
      clear hk5 HR1
      go_enter Try.func26, Try.ntmps26
      go_wp2
      rw [← hw0]
      clear hw0 z0
      go_loopw [3, 12] (fun t q wr => SumRel ks Rx.groupsL (· + ·) R w0 t q wr) (fun _ q _ => ks.length - (intOf q).toNat)
      case atStart => exact ⟨0, 0, by omega, rfl, rfl, by omega, Below.refl _ _, HR0⟩
      case round =>
        obtain ⟨i, d, hi, rfl, rfl, hd9, hb, HF⟩ := hrel
        clear HR0
        have hB := hb.size
        cases hd : ks.drop i with
        | nil =>
          have h2 : ks.length ≤ i := by simpa using hd
          have HE : Hid (d = R) := Lib.hid (by rw [← HF.out, hd]; simp [Rx.groupsL])
          clear hd HF
          have hbb := hb0.trans (hb.mono hb0.size)
          go_wp2
          go_ret
          exact ⟨ret_int (by have := HE.out; omega), hbb⟩
        | cons y r =>
          obtain ⟨h2, h3, hr⟩ := ldrop_cons hd
          obtain ⟨yk, yc, yn, yr, yl, yh, yz, ys⟩ := y
          obtain ⟨b, o, ya, yrc, yka, ykc, rfl, hS, hbB, _, _, hyv, c0, c1, c2, c3, c4, c5, c6, c7⟩ := (HX.out.later hb).cells h3
          have hyp := Rx.parts_mem (List.mem_of_getElem? h3)
          have Hr := Lib.hid hr
          have HE : Hid (d + (Rx.groups (.mk yk yc yn yr yl yh yz ys) + Rx.groupsL r) = R) := Lib.hid (by rw [← HF.out, hd]; rfl)
          have hle : d + Rx.groups (.mk yk yc yn yr yl yh yz ys) ≤ 1000000 := by have := HE.out; omega
          have HYV := Lib.hid (hyv.later ((Below.refl wr.heap.size wr).alloc (Nat.le_refl _) (.cells (rxc yk yc yn ya yr.length yrc yl yh yz yka ys.length ykc).toArray 26)))
          unfold rxc at HYV
          clear hd HF hr h3 hyv
          go_wp2_with (go_at_call 26; refine (IH.out _ hyp _ _ HYV.out).mono ?_; rintro e w1 ⟨rfl, hb1⟩)
          go_roundw
          case rel => exact ⟨i + 1, d + Rx.groups (.mk yk yc yn yr yl yh yz ys), by omega, by go_num, by go_num, by omega, (hb.alloc hB _).trans (hb1.mono (by simp; omega)), Lib.hid (by rw [Hr.out]; have h := HE.out; show d + Rx.groups (.mk yk yc yn yr yl yh yz ys) + Rx.groupsL r = R; omega)⟩
          case measure => simp [intOf]; omega
set_option maxHeartbeats 1000000 in
theorem Parts_any (S : Nat → Prop) : ∀ (N : Nat) (x : Rx), x.parts ≤ N → x.parts ≤ 1000000 → ∀ (cc : List Value) (w : World), RxV w S cc x →
    Calls Try.prog 27 #[.agg cc.toArray] w fun e w' => e = .returned (.int .i64 x.parts) ∧ Below w.heap.size w w'
  | 0, x, h, _, _, _, _ => by have := Rx.parts_pos x; omega
  | N + 1, .mk k c ng rs lo hi lz ks, h, hm, cc, w, hv => by
    obtain ⟨ra, rc, ka, kc, rfl, hrs, hx⟩ := hv.open_
    simp only [Rx.parts] at h hm
    have hlen := Rx.len_parts ks
    have hdl := trivial
    have ih := fun (y : Rx) (hy : y.parts ≤ Rx.partsL ks) => Parts_any S N y (by omega) (by omega)
    have IH := Lib.hid ih
    have HX := Lib.hid (hx.later ((Below.refl w.heap.size w).alloc (Nat.le_refl _) (.cells #[.int .i64 k, .string ⟨(c).toArray⟩, .bool ng, .slice ra rs.length rc, .int .i64 lo, .int .i64 hi, .bool lz, .slice ka ks.length kc] 26)))
    obtain ⟨w0, hw0⟩ : ∃ w0, w0 = w.alloc (.cells #[.int .i64 k, .string ⟨(c).toArray⟩, .bool ng, .slice ra rs.length rc, .int .i64 lo, .int .i64 hi, .bool lz, .slice ka ks.length kc] 26) := ⟨_, rfl⟩
    have hb0 : Below w.heap.size w w0 := by rw [hw0]; exact (Below.refl _ _).alloc (Nat.le_refl _) _
    have z0 : w0.cell? ⟨w.heap.size, 0, none⟩ = some (.int .i64 k) := by rw [hw0]; simp
    rw [← hw0] at HX
    obtain ⟨R, hR⟩ : ∃ R, (Rx.mk k c ng rs lo hi lz ks).parts = R := ⟨_, rfl⟩
    have hR6 : R ≤ 1000000 := by rw [← hR]; simp only [Rx.parts]; omega
    have HR0 : Hid (1 + Rx.partsL (ks.drop 0) = R) := Lib.hid hR
    rw [hR]
    clear hR hx hv hrs ih hdl
    unfold rxc
    go_enter Try.func27, Try.ntmps27
    go_wp2
    rw [← hw0]
    clear hw0 z0
    go_loopw [3, 9] (fun t q wr => SumRel ks Rx.partsL (· + ·) R w0 t q wr) (fun _ q _ => ks.length - (intOf q).toNat)
    case atStart => exact ⟨0, 1, by omega, rfl, rfl, by omega, Below.refl _ _, HR0⟩
    case round =>
      obtain ⟨i, d, hi, rfl, rfl, hd9, hb, HF⟩ := hrel
      clear HR0
      have hB := hb.size
      cases hd : ks.drop i with
      | nil =>
        have h2 : ks.length ≤ i := by simpa using hd
        have HE : Hid (d = R) := Lib.hid (by rw [← HF.out, hd]; simp [Rx.partsL])
        clear hd HF
        have hbb := hb0.trans (hb.mono hb0.size)
        go_wp2
        go_ret
        exact ⟨ret_int (by have := HE.out; omega), hbb⟩
      | cons y r =>
        obtain ⟨h2, h3, hr⟩ := ldrop_cons hd
        obtain ⟨yk, yc, yn, yr, yl, yh, yz, ys⟩ := y
        obtain ⟨b, o, ya, yrc, yka, ykc, rfl, hS, hbB, _, _, hyv, c0, c1, c2, c3, c4, c5, c6, c7⟩ := (HX.out.later hb).cells h3
        have hyp := Rx.parts_mem (List.mem_of_getElem? h3)
        have Hr := Lib.hid hr
        have HE : Hid (d + (Rx.parts (.mk yk yc yn yr yl yh yz ys) + Rx.partsL r) = R) := Lib.hid (by rw [← HF.out, hd]; rfl)
        have hle : d + Rx.parts (.mk yk yc yn yr yl yh yz ys) ≤ 1000000 := by have := HE.out; omega
        have HYV := Lib.hid (hyv.later ((Below.refl wr.heap.size wr).alloc (Nat.le_refl _) (.cells (rxc yk yc yn ya yr.length yrc yl yh yz yka ys.length ykc).toArray 26)))
        unfold rxc at HYV
        clear hd HF hr h3 hyv
        go_wp2_with (go_at_call 27; refine (IH.out _ hyp _ _ HYV.out).mono ?_; rintro e w1 ⟨rfl, hb1⟩)
        go_roundw
        case rel => exact ⟨i + 1, d + Rx.parts (.mk yk yc yn yr yl yh yz ys), by omega, by go_num, by go_num, by omega, (hb.alloc hB _).trans (hb1.mono (by simp; omega)), Lib.hid (by rw [Hr.out]; have h := HE.out; show d + Rx.parts (.mk yk yc yn yr yl yh yz ys) + Rx.partsL r = R; omega)⟩
        case measure => simp [intOf]; omega
end Go.Proofs.Ytpggnfpjjppbmaa
set_option maxRecDepth 100000
namespace Go.Proofs.Ytpggnfpjjppbmaa
open Go.RowKit
/-- What 'fits' answers: what is left, if the tree may be. -/
def FitPost (x : Rx) (left dp : Int) (e : Ending) : Prop :=
  ∃ l' : Int, e = .returned (.tuple #[.int .i64 l', .bool (okB x left dp)]) ∧ (okB x left dp = true → l' = left - x.parts)
def FitRel (ks : List Rx) (R : Bool) (tot dp : Int) (w : World) (t q : Value) (wr : World) : Prop :=
  ∃ (k : Nat) (l : Int), k ≤ ks.length ∧ q = .int .i64 k ∧ t = .int .i64 l ∧ 0 ≤ l ∧ l ≤ 100000 ∧ Below w.heap.size w wr ∧ Hid (okL (ks.drop k) l dp = R) ∧ Hid (l - Rx.partsL (ks.drop k) = tot)
theorem okL_nil {l dp : Int} (h : 0 ≤ l) (h' : 0 ≤ dp) : okL [] l dp = true := by
  unfold okL
  rw [decide_eq_true (show ((Rx.partsL [] : Nat) : Int) ≤ l from h), decide_eq_true (show ((Rx.deepL [] : Nat) : Int) ≤ dp from h')]; rfl
theorem fields_eq {S : Nat → Prop} {K : Int} {c : Str} {ng : Bool} {ra : Option Addr} {rs : List (Str × Str)} {rc : Nat} {lo hi : Int} {lz : Bool} {ka : Option Addr} {ks : List Rx} {kc : Nat} {b : Bool} (w : World)
    (h : fieldsB (.mk K c ng rs lo hi lz ks) = b) (hr : SlS w S ra 2 rs.length (rcells rs)) (hx : RxSl w S ka ks.length ks) (hsm : (Rx.mk K c ng rs lo hi lz ks).small1) :
    Calls Try.prog 56 #[.agg #[.int .i64 K, .string ⟨(c).toArray⟩, .bool ng, .slice ra rs.length rc, .int .i64 lo, .int .i64 hi, .bool lz, .slice ka ks.length kc]] w fun e w' => e = .returned (.bool b) ∧ Below w.heap.size w w' ∧ ∀ a u, w.cell? a = some u → w'.cell? a = some u := by
  subst h
  exact (fields_any S K c ng ra rs rc lo hi lz ka ks kc w hr hx hsm).mono fun _ _ ⟨h1, h2⟩ => ⟨h1, h2, cell_kept h2⟩
set_option maxHeartbeats 4000000 in
theorem fits_any (S : Nat → Prop) : ∀ (N : Nat) (x : Rx), x.parts ≤ N → x.parts ≤ 1000000 → x.small → ∀ (cc : List Value) (w : World) (left dp : Int), RxV w S cc x → -100000 ≤ left → left ≤ 100000 → -100000 ≤ dp → dp ≤ 100000 →
    Calls Try.prog 43 #[.agg cc.toArray, .int .i64 left, .int .i64 dp] w fun e w' => FitPost x left dp e ∧ Below w.heap.size w w'
  | 0, x, h, _, _, _, _, _, _, _, _, _, _, _ => by have := Rx.parts_pos x; omega
  | N + 1, .mk k c ng rs lo hi lz ks, h, hm, hsm, cc, w, left, dp, hv, l0, l1, d0, d1 => by
    obtain ⟨ra, rc, ka, kc, rfl, hrs, hx⟩ := hv.open_
    obtain ⟨hs1, hs2⟩ := hsm
    simp only [Rx.parts] at h hm
    have hlen := Rx.len_parts ks
    have ih := fun (y : Rx) (hy : y.parts ≤ Rx.partsL ks) => fits_any S N y (by omega) (by omega)
    have IH := Lib.hid ih
    have HSM := Lib.hid hs2
    have HS1 := Lib.hid hs1
    have hb0 := (Below.refl w.heap.size w).alloc (Nat.le_refl _) (.cells #[.int .i64 k, .string ⟨(c).toArray⟩, .bool ng, .slice ra rs.length rc, .int .i64 lo, .int .i64 hi, .bool lz, .slice ka ks.length kc] 26)
    have HX0 := Lib.hid (hx.later hb0)
    have HRS := Lib.hid (hrs.keep (Kept.all hb0))
    clear hx hv hrs ih hs1 hs2
    unfold rxc
    cases hG : grpB k with
    | true =>
      cases hF : fieldsB (.mk k c ng rs lo hi lz ks) with
      | false =>
        have HF := Lib.hid hF
        have HO : Hid (okB (.mk k c ng rs lo hi lz ks) left dp = false) := Lib.hid (by rw [okB_eq, hF]; simp)
        clear hF
        go_enter Try.func43, Try.ntmps43
        go_wp2_with (first | (go_at_call 42; refine (group_any _ _).mono ?_; rintro e w1 ⟨rfl, rfl⟩; rw [hG]) | (go_at_call 56; refine (fields_eq _ HF.out HRS.out HX0.out HS1.out).mono ?_; rintro e w1 ⟨rfl, hb1, hc1⟩; have z1 := hc1 ⟨w.heap.size, 7, none⟩ (.slice ka ks.length kc) (by simp)))
        all_goals
          (go_ret2; refine ⟨⟨left, by rw [HO.out]; rfl, fun h => by rw [HO.out] at h; cases h⟩, ?_⟩; first | exact (Below.refl _ _).alloc (Nat.le_refl _) _ | exact ((Below.refl _ _).alloc (Nat.le_refl _) _).trans (hb1.mono (by simp)))
      | true =>
        have HF := Lib.hid hF
        by_cases hld : left < 1 ∨ dp - 1 < 0
        · have HO : Hid (okB (.mk k c ng rs lo hi lz ks) left dp = false) := Lib.hid (by
            rw [okB_eq, hG]
            rcases hld with h | h
            · rw [decide_eq_false (by omega : ¬ 1 ≤ left)]; rfl
            · simp; omega)
          clear hF
          go_enter Try.func43, Try.ntmps43
          go_wp2_with (first | (go_at_call 42; refine (group_any _ _).mono ?_; rintro e w1 ⟨rfl, rfl⟩; rw [hG]) | (go_at_call 56; refine (fields_eq _ HF.out HRS.out HX0.out HS1.out).mono ?_; rintro e w1 ⟨rfl, hb1, hc1⟩; have z1 := hc1 ⟨w.heap.size, 7, none⟩ (.slice ka ks.length kc) (by simp)))
          all_goals first
            | (exfalso; omega)
            | (go_ret2; refine ⟨⟨left, by rw [HO.out]; rfl, fun h => by rw [HO.out] at h; cases h⟩, ?_⟩; first | exact (Below.refl _ _).alloc (Nat.le_refl _) _ | exact ((Below.refl _ _).alloc (Nat.le_refl _) _).trans (hb1.mono (by simp)))
        · have hl1 : 1 ≤ left := by omega
          have hd0 : 0 ≤ dp - 1 := by omega
          have HO : Hid (okB (.mk k c ng rs lo hi lz ks) left dp = okL ks (left - 1) (dp - 1)) := Lib.hid (by rw [okB_eq, hG, hF, decide_eq_true hl1]; simp; omega)
          clear hF hld
          obtain ⟨R, hR⟩ : ∃ R, okL ks (left - 1) (dp - 1) = R := ⟨_, rfl⟩
          have HR0 : Hid (okL (ks.drop 0) (left - 1) (dp - 1) = R) := Lib.hid hR
          have HT0 : Hid (left - 1 - Rx.partsL (ks.drop 0) = left - (Rx.mk k c ng rs lo hi lz ks).parts) := Lib.hid (by simp only [Rx.parts, List.drop_zero]; omega)
          obtain ⟨tot, htot⟩ : ∃ tot, left - ((Rx.mk k c ng rs lo hi lz ks).parts : Int) = tot := ⟨_, rfl⟩
          have HOR : Hid (okB (.mk k c ng rs lo hi lz ks) left dp = R) := Lib.hid (by rw [HO.out, hR])
          have HTT := Lib.hid htot
          rw [htot] at HT0
          clear hR htot HO
          go_enter Try.func43, Try.ntmps43
          go_wp2_with (first | (go_at_call 42; refine (group_any _ _).mono ?_; rintro e w1 ⟨rfl, rfl⟩; rw [hG]) | (go_at_call 56; refine (fields_eq _ HF.out HRS.out HX0.out HS1.out).mono ?_; rintro e w1 ⟨rfl, hb1, hc1⟩; have z1 := hc1 ⟨w.heap.size, 7, none⟩ (.slice ka ks.length kc) (by simp)))
          have HX1 := Lib.hid ((HX0.out.later (Below.refl _ _)).later hb1)
          have hbw1 : Below w.heap.size w w1 := ((Below.refl _ _).alloc (Nat.le_refl _) _).trans (hb1.mono (by simp))
          have hz1 := hbw1.size
          clear hb1 hc1 z1
          go_loopw [1, 33] (fun t q wr => FitRel ks R tot (dp - 1) w1 t q wr) (fun _ q _ => ks.length - (intOf q).toNat)
          case atStart => exact ⟨0, left - 1, by omega, rfl, rfl, by omega, by omega, Below.refl _ _, HR0, HT0⟩
          case round =>
            obtain ⟨i, l, hi, rfl, rfl, hl0, hl9, hb, HL, HTL⟩ := hrel
            clear HR0 HT0
            have hB := hb.size
            cases hd : ks.drop i with
            | nil =>
              have h2 : ks.length ≤ i := by simpa using hd
              have HE : Hid (R = true) := Lib.hid (by rw [← HL.out, hd, okL_nil hl0 hd0])
              have HE2 : Hid (l = tot) := Lib.hid (by rw [← HTL.out, hd]; simp [Rx.partsL])
              clear hd HL HTL
              go_wp2
              go_ret2
              exact ⟨⟨l, by rw [HOR.out, HE.out]; rfl, fun _ => by rw [HE2.out, ← HTT.out]⟩, hbw1.trans (hb.mono hz1)⟩
            | cons y r =>
              have HX := HX1
              obtain ⟨h2, h3, hr⟩ := ldrop_cons hd
              obtain ⟨yk, yc, yn, yr, yl, yh, yz, ys⟩ := y
              obtain ⟨b, o, ya, yrc, yka, ykc, rfl, hS, hbB, _, _, hyv, c0, c1, c2, c3, c4, c5, c6, c7⟩ := (HX.out.later hb).cells h3
              have hyp := Rx.parts_mem (List.mem_of_getElem? h3)
              have hym := smallL_mem HSM.out (List.mem_of_getElem? h3)
              have Hr := Lib.hid hr
              have HE : Hid (R = (okB (.mk yk yc yn yr yl yh yz ys) l (dp - 1) && okL r (l - (Rx.mk yk yc yn yr yl yh yz ys).parts) (dp - 1))) := Lib.hid (by rw [← HL.out, hd, okL_cons])
              have HE2 : Hid (l - (Rx.mk yk yc yn yr yl yh yz ys).parts - Rx.partsL r = tot) := Lib.hid (by rw [← HTL.out, hd]; simp only [Rx.partsL]; omega)
              have HYV := Lib.hid (hyv.later ((Below.refl wr.heap.size wr).alloc (Nat.le_refl _) (.cells (rxc yk yc yn ya yr.length yrc yl yh yz yka ys.length ykc).toArray 26)))
              unfold rxc at HYV
              have HYM := Lib.hid hym
              clear hd HL HTL hr h3 hyv hym
              go_wp2_with (go_at_call 43; refine (IH.out _ hyp HYM.out _ _ l (dp - 1) HYV.out (by omega) (by omega) (by omega) (by omega)).mono ?_)
              rintro e w2 ⟨⟨l', rfl, hl'⟩, hb2⟩
              have hbw2 : Below w.heap.size w w2 := hbw1.trans (((hb.alloc hB _).trans (hb2.mono (by simp; omega))).mono hz1)
              cases hok : okB (.mk yk yc yn yr yl yh yz ys) l (dp - 1) with
              | false =>
                have HE3 : Hid (R = false) := Lib.hid (by rw [HE.out, hok]; rfl)
                clear hl'
                go_wp2
                go_ret2
                exact ⟨⟨_, by rw [HOR.out, HE3.out]; rfl, fun h => by rw [HOR.out, HE3.out] at h; cases h⟩, hbw2⟩
              | true =>
                have hl2 := hl' hok
                have hpp : (Rx.mk yk yc yn yr yl yh yz ys).parts ≤ l := by
                  have h := hok; simp only [okB, Bool.and_eq_true, decide_eq_true_eq] at h; exact h.1.2
                have HE3 : Hid (okL r l' (dp - 1) = R) := Lib.hid (by rw [HE.out, hok, hl2]; rfl)
                have hl3 : 0 ≤ l' := by omega
                have hl4 : l' ≤ 100000 := by omega
                have HE4 : Hid (l' - Rx.partsL r = tot) := Lib.hid (by rw [hl2]; exact HE2.out)
                clear hl' hl2
                go_wp2
                go_roundw
                case rel => exact ⟨i + 1, l', by omega, by go_num, rfl, hl3, hl4, (hb.alloc hB _).trans (hb2.mono (by simp; omega)), Lib.hid (by rw [Hr.out]; exact HE3.out), Lib.hid (by rw [Hr.out]; exact HE4.out)⟩
                case measure => simp [intOf]; omega
    | false =>
      cases hF : fieldsB (.mk k c ng rs lo hi lz ks) with
      | false =>
        have HF := Lib.hid hF
        have HO : Hid (okB (.mk k c ng rs lo hi lz ks) left dp = false) := Lib.hid (by rw [okB_eq, hF]; simp)
        clear hF
        go_enter Try.func43, Try.ntmps43
        go_wp2_with (first | (go_at_call 42; refine (group_any _ _).mono ?_; rintro e w1 ⟨rfl, rfl⟩; rw [hG]) | (go_at_call 56; refine (fields_eq _ HF.out HRS.out HX0.out HS1.out).mono ?_; rintro e w1 ⟨rfl, hb1, hc1⟩; have z1 := hc1 ⟨w.heap.size, 7, none⟩ (.slice ka ks.length kc) (by simp)))
        all_goals
          (go_ret2; refine ⟨⟨left, by rw [HO.out]; rfl, fun h => by rw [HO.out] at h; cases h⟩, ?_⟩; first | exact (Below.refl _ _).alloc (Nat.le_refl _) _ | exact ((Below.refl _ _).alloc (Nat.le_refl _) _).trans (hb1.mono (by simp)))
      | true =>
        have HF := Lib.hid hF
        by_cases hld : left < 1 ∨ dp < 0
        · have HO : Hid (okB (.mk k c ng rs lo hi lz ks) left dp = false) := Lib.hid (by
            rw [okB_eq, hG]
            rcases hld with h | h
            · rw [decide_eq_false (by omega : ¬ 1 ≤ left)]; rfl
            · simp; omega)
          clear hF
          go_enter Try.func43, Try.ntmps43
          go_wp2_with (first | (go_at_call 42; refine (group_any _ _).mono ?_; rintro e w1 ⟨rfl, rfl⟩; rw [hG]) | (go_at_call 56; refine (fields_eq _ HF.out HRS.out HX0.out HS1.out).mono ?_; rintro e w1 ⟨rfl, hb1, hc1⟩; have z1 := hc1 ⟨w.heap.size, 7, none⟩ (.slice ka ks.length kc) (by simp)))
          all_goals first
            | (exfalso; omega)
            | (go_ret2; refine ⟨⟨left, by rw [HO.out]; rfl, fun h => by rw [HO.out] at h; cases h⟩, ?_⟩; first | exact (Below.refl _ _).alloc (Nat.le_refl _) _ | exact ((Below.refl _ _).alloc (Nat.le_refl _) _).trans (hb1.mono (by simp)))
        · have hl1 : 1 ≤ left := by omega
          have hd0 : 0 ≤ dp := by omega
          have HO : Hid (okB (.mk k c ng rs lo hi lz ks) left dp = okL ks (left - 1) (dp)) := Lib.hid (by rw [okB_eq, hG, hF, decide_eq_true hl1]; simp; omega)
          clear hF hld
          obtain ⟨R, hR⟩ : ∃ R, okL ks (left - 1) (dp) = R := ⟨_, rfl⟩
          have HR0 : Hid (okL (ks.drop 0) (left - 1) (dp) = R) := Lib.hid hR
          have HT0 : Hid (left - 1 - Rx.partsL (ks.drop 0) = left - (Rx.mk k c ng rs lo hi lz ks).parts) := Lib.hid (by simp only [Rx.parts, List.drop_zero]; omega)
          obtain ⟨tot, htot⟩ : ∃ tot, left - ((Rx.mk k c ng rs lo hi lz ks).parts : Int) = tot := ⟨_, rfl⟩
          have HOR : Hid (okB (.mk k c ng rs lo hi lz ks) left dp = R) := Lib.hid (by rw [HO.out, hR])
          have HTT := Lib.hid htot
          rw [htot] at HT0
          clear hR htot HO
          go_enter Try.func43, Try.ntmps43
          go_wp2_with (first | (go_at_call 42; refine (group_any _ _).mono ?_; rintro e w1 ⟨rfl, rfl⟩; rw [hG]) | (go_at_call 56; refine (fields_eq _ HF.out HRS.out HX0.out HS1.out).mono ?_; rintro e w1 ⟨rfl, hb1, hc1⟩; have z1 := hc1 ⟨w.heap.size, 7, none⟩ (.slice ka ks.length kc) (by simp)))
          have HX1 := Lib.hid ((HX0.out.later (Below.refl _ _)).later hb1)
          have hbw1 : Below w.heap.size w w1 := ((Below.refl _ _).alloc (Nat.le_refl _) _).trans (hb1.mono (by simp))
          have hz1 := hbw1.size
          clear hb1 hc1 z1
          go_loopw [1, 33] (fun t q wr => FitRel ks R tot (dp) w1 t q wr) (fun _ q _ => ks.length - (intOf q).toNat)
          case atStart => exact ⟨0, left - 1, by omega, rfl, rfl, by omega, by omega, Below.refl _ _, HR0, HT0⟩
          case round =>
            obtain ⟨i, l, hi, rfl, rfl, hl0, hl9, hb, HL, HTL⟩ := hrel
            clear HR0 HT0
            have hB := hb.size
            cases hd : ks.drop i with
            | nil =>
              have h2 : ks.length ≤ i := by simpa using hd
              have HE : Hid (R = true) := Lib.hid (by rw [← HL.out, hd, okL_nil hl0 hd0])
              have HE2 : Hid (l = tot) := Lib.hid (by rw [← HTL.out, hd]; simp [Rx.partsL])
              clear hd HL HTL
              go_wp2
              go_ret2
              exact ⟨⟨l, by rw [HOR.out, HE.out]; rfl, fun _ => by rw [HE2.out, ← HTT.out]⟩, hbw1.trans (hb.mono hz1)⟩
            | cons y r =>
              have HX := HX1
              obtain ⟨h2, h3, hr⟩ := ldrop_cons hd
              obtain ⟨yk, yc, yn, yr, yl, yh, yz, ys⟩ := y
              obtain ⟨b, o, ya, yrc, yka, ykc, rfl, hS, hbB, _, _, hyv, c0, c1, c2, c3, c4, c5, c6, c7⟩ := (HX.out.later hb).cells h3
              have hyp := Rx.parts_mem (List.mem_of_getElem? h3)
              have hym := smallL_mem HSM.out (List.mem_of_getElem? h3)
              have Hr := Lib.hid hr
              have HE : Hid (R = (okB (.mk yk yc yn yr yl yh yz ys) l (dp) && okL r (l - (Rx.mk yk yc yn yr yl yh yz ys).parts) (dp))) := Lib.hid (by rw [← HL.out, hd, okL_cons])
              have HE2 : Hid (l - (Rx.mk yk yc yn yr yl yh yz ys).parts - Rx.partsL r = tot) := Lib.hid (by rw [← HTL.out, hd]; simp only [Rx.partsL]; omega)
              have HYV := Lib.hid (hyv.later ((Below.refl wr.heap.size wr).alloc (Nat.le_refl _) (.cells (rxc yk yc yn ya yr.length yrc yl yh yz yka ys.length ykc).toArray 26)))
              unfold rxc at HYV
              have HYM := Lib.hid hym
              clear hd HL HTL hr h3 hyv hym
              go_wp2_with (go_at_call 43; refine (IH.out _ hyp HYM.out _ _ l (dp) HYV.out (by omega) (by omega) (by omega) (by omega)).mono ?_)
              rintro e w2 ⟨⟨l', rfl, hl'⟩, hb2⟩
              have hbw2 : Below w.heap.size w w2 := hbw1.trans (((hb.alloc hB _).trans (hb2.mono (by simp; omega))).mono hz1)
              cases hok : okB (.mk yk yc yn yr yl yh yz ys) l (dp) with
              | false =>
                have HE3 : Hid (R = false) := Lib.hid (by rw [HE.out, hok]; rfl)
                clear hl'
                go_wp2
                go_ret2
                exact ⟨⟨_, by rw [HOR.out, HE3.out]; rfl, fun h => by rw [HOR.out, HE3.out] at h; cases h⟩, hbw2⟩
              | true =>
                have hl2 := hl' hok
                have hpp : (Rx.mk yk yc yn yr yl yh yz ys).parts ≤ l := by
                  have h := hok; simp only [okB, Bool.and_eq_true, decide_eq_true_eq] at h; exact h.1.2
                have HE3 : Hid (okL r l' (dp) = R) := Lib.hid (by rw [HE.out, hok, hl2]; rfl)
                have hl3 : 0 ≤ l' := by omega
                have hl4 : l' ≤ 100000 := by omega
                have HE4 : Hid (l' - Rx.partsL r = tot) := Lib.hid (by rw [hl2]; exact HE2.out)
                clear hl' hl2
                go_wp2
                go_roundw
                case rel => exact ⟨i + 1, l', by omega, by go_num, rfl, hl3, hl4, (hb.alloc hB _).trans (hb2.mono (by simp; omega)), Lib.hid (by rw [Hr.out]; exact HE3.out), Lib.hid (by rw [Hr.out]; exact HE4.out)⟩
                case measure => simp [intOf]; omega
theorem RxMay_any (S : Nat → Prop) (x : Rx) (cc : List Value) (w : World) (hm : x.parts ≤ 1000000) (hsm : x.small) (hv : RxV w S cc x) :
    Calls Try.prog 25 #[.agg cc.toArray] w fun e w' => e = .returned (.bool (mayB x)) ∧ Below w.heap.size w w' := by
  obtain ⟨k, c, ng, rs, lo, hi, lz, ks⟩ := x
  obtain ⟨ra, rc, ka, kc, rfl, hrs, hx⟩ := hv.open_
  have HV := Lib.hid (hv.later ((Below.refl w.heap.size w).alloc (Nat.le_refl _) (.cells #[.int .i64 k, .string ⟨(c).toArray⟩, .bool ng, .slice ra rs.length rc, .int .i64 lo, .int .i64 hi, .bool lz, .slice ka ks.length kc] 26)))
  have HSM := Lib.hid hsm
  have HM := Lib.hid hm
  clear hv hrs hx hsm hm
  unfold rxc at HV ⊢
  go_enter Try.func25, Try.ntmps25
  go_wp2_with (go_at_call 43; refine (fits_any S _ _ (Nat.le_refl _) HM.out HSM.out _ _ 512 16 HV.out (by decide) (by decide) (by decide) (by decide)).mono ?_; rintro e w1 ⟨⟨l', rfl, hl'⟩, hb1⟩)
  go_ret
  exact ⟨rfl, ((Below.refl _ _).alloc (Nat.le_refl _) _).trans (hb1.mono (by simp))⟩
end Go.Proofs.Ytpggnfpjjppbmaa
