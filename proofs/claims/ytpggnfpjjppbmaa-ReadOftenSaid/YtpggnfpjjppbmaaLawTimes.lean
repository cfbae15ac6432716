/- walk of gimletlaw14.ReadTimes -/
import Derived.Test.YtpggnfpjjppbmaaLawMay
import Derived.Test.YtpggnfpjjppbmaaBP
import Derived.Test.YtpggnfpjjppbmaaBL
set_option maxRecDepth 100000
namespace Go.Proofs.Ytpggnfpjjppbmaa
open Go.RowKit
def kidO : Obj := .cells #[.int .i64 2, .string ⟨#[120]⟩, .bool false, .slice none 0 0, .int .i64 0, .int .i64 0, .bool false, .slice none 0 0] 26
theorem rep_lit {W : World} {b k : Nat} {lo hi : Int} {lz : Bool} (h : W.heap[b]? = some kidO) : RxV W Any [.int .i64 7, .string ⟨#[]⟩, .bool false, .slice none 0 0, .int .i64 lo, .int .i64 hi, .bool lz, .slice (some ⟨b, 0, none⟩) 1 k] (repR lo hi lz (chrR [120])) :=
  RxV.close (rs := []) (ks := [chrR [120]]) (SlS.none_ _ _ _ _) (RxSl.one (t := 26) leaf_v h trivial)
theorem small_rep0 (lo hi : Int) (lz : Bool) : (repR lo hi lz (chrR [120])).small := by
  unfold repR chrR; simp [Rx.small, Rx.small1, Rx.smallL]
theorem kid_at (w : World) (o1 o2 : Obj) : (((w.alloc o1).alloc kidO).alloc o2).heap[w.heap.size + 1]? = some kidO := by
  rw [Below.heap_alloc _ _ _ (by simp)]
  have := heap_alloc_new (w.alloc o1) kidO
  simpa using this
def TimesAt (n m f : Int) (lz : Bool) : Prop := ∀ w : World, Calls Try.prog 7 #[.int .i64 n, .int .i64 m, .int .i64 f, .bool lz] w fun e w' => e = .returned (.bool true) ∧ Below w.heap.size w w'
theorem readH {T : Str} {x : Rx} (h : readM T = .ok x) (hl : T.length ≤ 1000) : ∀ (s : Str) (w : World), s = T → Calls Try.prog 13 #[.string ⟨(s).toArray⟩] w fun e w' => ReadPost w.heap.size w (.ok x) e w' := by
  rintro s w rfl; exact Read_ok w (by omega) h
theorem readHno {T : Str} {q : Int} (h : readM T = .error q) (hl : T.length ≤ 1000) : ∀ (s : Str) (w : World), s = T → Calls Try.prog 13 #[.string ⟨(s).toArray⟩] w fun e w' => e = .returned (.tuple #[rxv0, .int .i64 q]) ∧ Below w.heap.size w w' := by
  rintro s w rfl; exact Read_no w (by omega) h
theorem dig_len {a : Nat} (h : a ≤ 1200) : (Lib.decDigits a).length ≤ 4 := by
  rw [Lib.decDigits_length]; exact (nDigits_le (by omega)).2
set_option maxHeartbeats 4000000 in
theorem times0 {n m f : Int} {lz : Bool} {na nb : Nat} (HNA : Hid (low n 1201 = (na : Int))) (HNB : Hid (low m 1201 = (nb : Int))) (HF : Hid (low f 3 = 0)) (ha : na ≤ 1200) : TimesAt n m f lz := by
  intro w
  have hdl := dig_len ha
  have hasc : ∀ c ∈ Lib.decDigits na ++ [125], insideB c = false := by
    intro c hc
    rcases List.mem_append.1 hc with hc | hc
    · exact dec_asc na c hc
    · rw [List.mem_singleton] at hc; subst hc; decide
  by_cases h1 : na ≤ 255
  · have hr := fun lz => read_times (lo := na) (hi := na) hasc (by simp; omega) (fun z => by rw [bounds_a, if_pos h1]) lz
    have d1 : decide ((na : Int) ≤ 255) = true := decide_eq_true (by omega)
    cases lz with
    | true =>
      have HX := Lib.hid (readH (hr true) (by simp [lzS]; omega))
      clear hr
      go_enter Try.func7, Try.ntmps7
      go_wp2_with (go_at_call 21; refine (Low_any n 1201 _ (by decide) (by decide)).mono ?_)
      rintro e wl ⟨rfl, rfl⟩
      rw [HNA.out]
      go_wp2_with (go_at_call 21; refine (Low_any m 1201 _ (by decide) (by decide)).mono ?_)
      rintro e wl ⟨rfl, rfl⟩
      rw [HNB.out]
      go_wp2_with (go_at_call 22; refine (Digits_any na _ (by omega)).mono ?_)
      rintro e w1 ⟨rfl, hb1⟩
      go_wp2_with (go_at_call 21; refine (Low_any f 3 _ (by decide) (by decide)).mono ?_)
      rintro e wl ⟨rfl, rfl⟩
      rw [HF.out]
      go_wp2_with (go_at_call 13; refine (HX.out _ _ (by simp [lzS])).mono ?_)
      rintro e w5 ⟨hb5, cc5, rfl, hv5⟩
      obtain ⟨k5, c5, n5, r5, l5, h5, z5, s5, a5, d5, b5, g5, hx5, rfl⟩ := hv5.box
      have HV5 := Lib.hid hv5
      have HX5 := Lib.hid hx5
      clear hv5 hx5
      unfold rxc at HV5 ⊢
      have hbw5 := bel2 hb1 hb5
      go_wp2_with (go_at_call 15; refine (Same_eq _ (small_rep0 _ _ _) (HV5.out.later (by (repeat (first | with_reducible exact Below.refl _ _ | with_reducible assumption | (refine Below.setCell ?_ (by simp) _) | (refine Below.alloc ?_ (by first | (simp; done) | (simp; omega)) _) | (refine Below.drew ?_))))) (rep_lit (kid_at _ _ _))).mono ?_)
      rintro e w6 ⟨rfl, hb6⟩
      go_wp2_with (go_at_call 12; refine (awake_any _).mono ?_; rintro e w9 ⟨rfl, hb9⟩)
      go_ret
      refine ⟨rfl, bel2 (bel2 ?_ hb6) hb9⟩
      have hz5 := hbw5.size
      (repeat (first | with_reducible exact Below.refl _ _ | with_reducible assumption | (refine Below.setCell ?_ (by simp) _) | (refine Below.alloc ?_ (by first | omega | (simp; done) | (simp; omega)) _) | (refine Below.drew ?_)))
    | false =>
      have HX := Lib.hid (readH (hr false) (by simp [lzS]; omega))
      clear hr
      go_enter Try.func7, Try.ntmps7
      go_wp2_with (go_at_call 21; refine (Low_any n 1201 _ (by decide) (by decide)).mono ?_)
      rintro e wl ⟨rfl, rfl⟩
      rw [HNA.out]
      go_wp2_with (go_at_call 21; refine (Low_any m 1201 _ (by decide) (by decide)).mono ?_)
      rintro e wl ⟨rfl, rfl⟩
      rw [HNB.out]
      go_wp2_with (go_at_call 22; refine (Digits_any na _ (by omega)).mono ?_)
      rintro e w1 ⟨rfl, hb1⟩
      go_wp2_with (go_at_call 21; refine (Low_any f 3 _ (by decide) (by decide)).mono ?_)
      rintro e wl ⟨rfl, rfl⟩
      rw [HF.out]
      go_wp2_with (go_at_call 13; refine (HX.out _ _ (by simp [lzS])).mono ?_)
      rintro e w5 ⟨hb5, cc5, rfl, hv5⟩
      obtain ⟨k5, c5, n5, r5, l5, h5, z5, s5, a5, d5, b5, g5, hx5, rfl⟩ := hv5.box
      have HV5 := Lib.hid hv5
      have HX5 := Lib.hid hx5
      clear hv5 hx5
      unfold rxc at HV5 ⊢
      have hbw5 := bel2 hb1 hb5
      go_wp2_with (go_at_call 15; refine (Same_eq _ (small_rep0 _ _ _) (HV5.out.later (by (repeat (first | with_reducible exact Below.refl _ _ | with_reducible assumption | (refine Below.setCell ?_ (by simp) _) | (refine Below.alloc ?_ (by first | (simp; done) | (simp; omega)) _) | (refine Below.drew ?_))))) (rep_lit (kid_at _ _ _))).mono ?_)
      rintro e w6 ⟨rfl, hb6⟩
      go_wp2_with (go_at_call 12; refine (awake_any _).mono ?_; rintro e w9 ⟨rfl, hb9⟩)
      go_ret
      refine ⟨rfl, bel2 (bel2 ?_ hb6) hb9⟩
      have hz5 := hbw5.size
      (repeat (first | with_reducible exact Below.refl _ _ | with_reducible assumption | (refine Below.setCell ?_ (by simp) _) | (refine Below.alloc ?_ (by first | omega | (simp; done) | (simp; omega)) _) | (refine Below.drew ?_)))
  · have hr := fun lz => read_times_no hasc (by simp; omega) (fun z => by rw [bounds_a, if_neg h1]) lz
    have d1 : decide ((na : Int) ≤ 255) = false := decide_eq_false (by omega)
    cases lz with
    | true =>
      have HX := Lib.hid (readHno (hr true) (by simp [lzS]; omega))
      clear hr
      go_enter Try.func7, Try.ntmps7
      go_wp2_with (go_at_call 21; refine (Low_any n 1201 _ (by decide) (by decide)).mono ?_)
      rintro e wl ⟨rfl, rfl⟩
      rw [HNA.out]
      go_wp2_with (go_at_call 21; refine (Low_any m 1201 _ (by decide) (by decide)).mono ?_)
      rintro e wl ⟨rfl, rfl⟩
      rw [HNB.out]
      go_wp2_with (go_at_call 22; refine (Digits_any na _ (by omega)).mono ?_)
      rintro e w1 ⟨rfl, hb1⟩
      go_wp2_with (go_at_call 21; refine (Low_any f 3 _ (by decide) (by decide)).mono ?_)
      rintro e wl ⟨rfl, rfl⟩
      rw [HF.out]
      go_wp2_with (go_at_call 13; refine (HX.out _ _ (by simp [lzS])).mono ?_)
      rintro e w5 ⟨rfl, hb5⟩
      unfold rxv0
      have hbw5 := bel2 hb1 hb5
      go_wp2_with (go_at_call 12; refine (awake_any _).mono ?_; rintro e w9 ⟨rfl, hb9⟩)
      go_ret
      refine ⟨rfl, bel2 ?_ hb9⟩
      have hz5 := hbw5.size
      (repeat (first | with_reducible exact Below.refl _ _ | with_reducible assumption | (refine Below.setCell ?_ (by simp) _) | (refine Below.alloc ?_ (by first | omega | (simp; done) | (simp; omega)) _) | (refine Below.drew ?_)))
    | false =>
      have HX := Lib.hid (readHno (hr false) (by simp [lzS]; omega))
      clear hr
      go_enter Try.func7, Try.ntmps7
      go_wp2_with (go_at_call 21; refine (Low_any n 1201 _ (by decide) (by decide)).mono ?_)
      rintro e wl ⟨rfl, rfl⟩
      rw [HNA.out]
      go_wp2_with (go_at_call 21; refine (Low_any m 1201 _ (by decide) (by decide)).mono ?_)
      rintro e wl ⟨rfl, rfl⟩
      rw [HNB.out]
      go_wp2_with (go_at_call 22; refine (Digits_any na _ (by omega)).mono ?_)
      rintro e w1 ⟨rfl, hb1⟩
      go_wp2_with (go_at_call 21; refine (Low_any f 3 _ (by decide) (by decide)).mono ?_)
      rintro e wl ⟨rfl, rfl⟩
      rw [HF.out]
      go_wp2_with (go_at_call 13; refine (HX.out _ _ (by simp [lzS])).mono ?_)
      rintro e w5 ⟨rfl, hb5⟩
      unfold rxv0
      have hbw5 := bel2 hb1 hb5
      go_wp2_with (go_at_call 12; refine (awake_any _).mono ?_; rintro e w9 ⟨rfl, hb9⟩)
      go_ret
      refine ⟨rfl, bel2 ?_ hb9⟩
      have hz5 := hbw5.size
      (repeat (first | with_reducible exact Below.refl _ _ | with_reducible assumption | (refine Below.setCell ?_ (by simp) _) | (refine Below.alloc ?_ (by first | omega | (simp; done) | (simp; omega)) _) | (refine Below.drew ?_)))
set_option maxHeartbeats 4000000 in
theorem times1 {n m f : Int} {lz : Bool} {na nb : Nat} (HNA : Hid (low n 1201 = (na : Int))) (HNB : Hid (low m 1201 = (nb : Int))) (HF : Hid (low f 3 = 1)) (ha : na ≤ 1200) : TimesAt n m f lz := by
  intro w
  have hdl := dig_len ha
  have hasc : ∀ c ∈ Lib.decDigits na ++ [44, 125], insideB c = false := by
    intro c hc
    rcases List.mem_append.1 hc with hc | hc
    · exact dec_asc na c hc
    · simp at hc; rcases hc with rfl | rfl <;> decide
  by_cases h1 : na ≤ 255
  · have hr := fun lz => read_times (lo := na) (hi := -1) hasc (by simp; omega) (fun z => by rw [bounds_b, if_pos h1]) lz
    have d1 : decide ((na : Int) ≤ 255) = true := decide_eq_true (by omega)
    cases lz with
    | true =>
      have HX := Lib.hid (readH (hr true) (by simp [lzS]; omega))
      clear hr
      go_enter Try.func7, Try.ntmps7
      go_wp2_with (go_at_call 21; refine (Low_any n 1201 _ (by decide) (by decide)).mono ?_)
      rintro e wl ⟨rfl, rfl⟩
      rw [HNA.out]
      go_wp2_with (go_at_call 21; refine (Low_any m 1201 _ (by decide) (by decide)).mono ?_)
      rintro e wl ⟨rfl, rfl⟩
      rw [HNB.out]
      go_wp2_with (go_at_call 22; refine (Digits_any na _ (by omega)).mono ?_)
      rintro e w1 ⟨rfl, hb1⟩
      go_wp2_with (go_at_call 21; refine (Low_any f 3 _ (by decide) (by decide)).mono ?_)
      rintro e wl ⟨rfl, rfl⟩
      rw [HF.out]
      go_wp2_with (go_at_call 13; refine (HX.out _ _ (by simp [lzS])).mono ?_)
      rintro e w5 ⟨hb5, cc5, rfl, hv5⟩
      obtain ⟨k5, c5, n5, r5, l5, h5, z5, s5, a5, d5, b5, g5, hx5, rfl⟩ := hv5.box
      have HV5 := Lib.hid hv5
      have HX5 := Lib.hid hx5
      clear hv5 hx5
      unfold rxc at HV5 ⊢
      have hbw5 := bel2 hb1 hb5
      go_wp2_with (go_at_call 15; refine (Same_eq _ (small_rep0 _ _ _) (HV5.out.later (by (repeat (first | with_reducible exact Below.refl _ _ | with_reducible assumption | (refine Below.setCell ?_ (by simp) _) | (refine Below.alloc ?_ (by first | (simp; done) | (simp; omega)) _) | (refine Below.drew ?_))))) (rep_lit (kid_at _ _ _))).mono ?_)
      rintro e w6 ⟨rfl, hb6⟩
      go_wp2_with (go_at_call 12; refine (awake_any _).mono ?_; rintro e w9 ⟨rfl, hb9⟩)
      go_ret
      refine ⟨rfl, bel2 (bel2 ?_ hb6) hb9⟩
      have hz5 := hbw5.size
      (repeat (first | with_reducible exact Below.refl _ _ | with_reducible assumption | (refine Below.setCell ?_ (by simp) _) | (refine Below.alloc ?_ (by first | omega | (simp; done) | (simp; omega)) _) | (refine Below.drew ?_)))
    | false =>
      have HX := Lib.hid (readH (hr false) (by simp [lzS]; omega))
      clear hr
      go_enter Try.func7, Try.ntmps7
      go_wp2_with (go_at_call 21; refine (Low_any n 1201 _ (by decide) (by decide)).mono ?_)
      rintro e wl ⟨rfl, rfl⟩
      rw [HNA.out]
      go_wp2_with (go_at_call 21; refine (Low_any m 1201 _ (by decide) (by decide)).mono ?_)
      rintro e wl ⟨rfl, rfl⟩
      rw [HNB.out]
      go_wp2_with (go_at_call 22; refine (Digits_any na _ (by omega)).mono ?_)
      rintro e w1 ⟨rfl, hb1⟩
      go_wp2_with (go_at_call 21; refine (Low_any f 3 _ (by decide) (by decide)).mono ?_)
      rintro e wl ⟨rfl, rfl⟩
      rw [HF.out]
      go_wp2_with (go_at_call 13; refine (HX.out _ _ (by simp [lzS])).mono ?_)
      rintro e w5 ⟨hb5, cc5, rfl, hv5⟩
      obtain ⟨k5, c5, n5, r5, l5, h5, z5, s5, a5, d5, b5, g5, hx5, rfl⟩ := hv5.box
      have HV5 := Lib.hid hv5
      have HX5 := Lib.hid hx5
      clear hv5 hx5
      unfold rxc at HV5 ⊢
      have hbw5 := bel2 hb1 hb5
      go_wp2_with (go_at_call 15; refine (Same_eq _ (small_rep0 _ _ _) (HV5.out.later (by (repeat (first | with_reducible exact Below.refl _ _ | with_reducible assumption | (refine Below.setCell ?_ (by simp) _) | (refine Below.alloc ?_ (by first | (simp; done) | (simp; omega)) _) | (refine Below.drew ?_))))) (rep_lit (kid_at _ _ _))).mono ?_)
      rintro e w6 ⟨rfl, hb6⟩
      go_wp2_with (go_at_call 12; refine (awake_any _).mono ?_; rintro e w9 ⟨rfl, hb9⟩)
      go_ret
      refine ⟨rfl, bel2 (bel2 ?_ hb6) hb9⟩
      have hz5 := hbw5.size
      (repeat (first | with_reducible exact Below.refl _ _ | with_reducible assumption | (refine Below.setCell ?_ (by simp) _) | (refine Below.alloc ?_ (by first | omega | (simp; done) | (simp; omega)) _) | (refine Below.drew ?_)))
  · have hr := fun lz => read_times_no hasc (by simp; omega) (fun z => by rw [bounds_b, if_neg h1]) lz
    have d1 : decide ((na : Int) ≤ 255) = false := decide_eq_false (by omega)
    cases lz with
    | true =>
      have HX := Lib.hid (readHno (hr true) (by simp [lzS]; omega))
      clear hr
      go_enter Try.func7, Try.ntmps7
      go_wp2_with (go_at_call 21; refine (Low_any n 1201 _ (by decide) (by decide)).mono ?_)
      rintro e wl ⟨rfl, rfl⟩
      rw [HNA.out]
      go_wp2_with (go_at_call 21; refine (Low_any m 1201 _ (by decide) (by decide)).mono ?_)
      rintro e wl ⟨rfl, rfl⟩
      rw [HNB.out]
      go_wp2_with (go_at_call 22; refine (Digits_any na _ (by omega)).mono ?_)
      rintro e w1 ⟨rfl, hb1⟩
      go_wp2_with (go_at_call 21; refine (Low_any f 3 _ (by decide) (by decide)).mono ?_)
      rintro e wl ⟨rfl, rfl⟩
      rw [HF.out]
      go_wp2_with (go_at_call 13; refine (HX.out _ _ (by simp [lzS])).mono ?_)
      rintro e w5 ⟨rfl, hb5⟩
      unfold rxv0
      have hbw5 := bel2 hb1 hb5
      go_wp2_with (go_at_call 12; refine (awake_any _).mono ?_; rintro e w9 ⟨rfl, hb9⟩)
      go_ret
      refine ⟨rfl, bel2 ?_ hb9⟩
      have hz5 := hbw5.size
      (repeat (first | with_reducible exact Below.refl _ _ | with_reducible assumption | (refine Below.setCell ?_ (by simp) _) | (refine Below.alloc ?_ (by first | omega | (simp; done) | (simp; omega)) _) | (refine Below.drew ?_)))
    | false =>
      have HX := Lib.hid (readHno (hr false) (by simp [lzS]; omega))
      clear hr
      go_enter Try.func7, Try.ntmps7
      go_wp2_with (go_at_call 21; refine (Low_any n 1201 _ (by decide) (by decide)).mono ?_)
      rintro e wl ⟨rfl, rfl⟩
      rw [HNA.out]
      go_wp2_with (go_at_call 21; refine (Low_any m 1201 _ (by decide) (by decide)).mono ?_)
      rintro e wl ⟨rfl, rfl⟩
      rw [HNB.out]
      go_wp2_with (go_at_call 22; refine (Digits_any na _ (by omega)).mono ?_)
      rintro e w1 ⟨rfl, hb1⟩
      go_wp2_with (go_at_call 21; refine (Low_any f 3 _ (by decide) (by decide)).mono ?_)
      rintro e wl ⟨rfl, rfl⟩
      rw [HF.out]
      go_wp2_with (go_at_call 13; refine (HX.out _ _ (by simp [lzS])).mono ?_)
      rintro e w5 ⟨rfl, hb5⟩
      unfold rxv0
      have hbw5 := bel2 hb1 hb5
      go_wp2_with (go_at_call 12; refine (awake_any _).mono ?_; rintro e w9 ⟨rfl, hb9⟩)
      go_ret
      refine ⟨rfl, bel2 ?_ hb9⟩
      have hz5 := hbw5.size
      (repeat (first | with_reducible exact Below.refl _ _ | with_reducible assumption | (refine Below.setCell ?_ (by simp) _) | (refine Below.alloc ?_ (by first | omega | (simp; done) | (simp; omega)) _) | (refine Below.drew ?_)))
set_option maxHeartbeats 8000000 in
theorem times2 {n m f : Int} {lz : Bool} {na nb : Nat} (HNA : Hid (low n 1201 = (na : Int))) (HNB : Hid (low m 1201 = (nb : Int))) (HF : Hid (low f 3 = 2)) (ha : na ≤ 1200) (hb : nb ≤ 1200) : TimesAt n m f lz := by
  intro w
  have hdl := dig_len ha
  have hdl2 := dig_len hb
  have hasc : ∀ c ∈ Lib.decDigits na ++ 44 :: (Lib.decDigits nb ++ [125]), insideB c = false := by
    intro c hc
    rcases List.mem_append.1 hc with hc | hc
    · exact dec_asc na c hc
    rcases List.mem_cons.1 hc with rfl | hc
    · decide
    rcases List.mem_append.1 hc with hc | hc
    · exact dec_asc nb c hc
    · rw [List.mem_singleton] at hc; subst hc; decide
  by_cases h1 : na ≤ 255
  · have d1 : decide ((na : Int) ≤ 255) = true := decide_eq_true (by omega)
    by_cases h2 : nb ≤ 255
    · have d2 : decide ((nb : Int) ≤ 255) = true := decide_eq_true (by omega)
      by_cases h3 : na ≤ nb
      · have d3 : decide ((na : Int) ≤ (nb : Int)) = true := decide_eq_true (by omega)
        have hr := fun lz => read_times (lo := na) (hi := nb) hasc (by simp; omega) (fun z => by rw [bounds_c, if_pos ⟨h1, h2, h3⟩]) lz
        cases lz with
        | true =>
          have HX := Lib.hid (readH (hr true) (by simp [lzS]; omega))
          clear hr
          go_enter Try.func7, Try.ntmps7
          go_wp2_with (go_at_call 21; refine (Low_any n 1201 _ (by decide) (by decide)).mono ?_)
          rintro e wl ⟨rfl, rfl⟩
          rw [HNA.out]
          go_wp2_with (go_at_call 21; refine (Low_any m 1201 _ (by decide) (by decide)).mono ?_)
          rintro e wl ⟨rfl, rfl⟩
          rw [HNB.out]
          go_wp2_with (go_at_call 22; refine (Digits_any na _ (by omega)).mono ?_)
          rintro e w1 ⟨rfl, hb1⟩
          go_wp2_with (go_at_call 21; refine (Low_any f 3 _ (by decide) (by decide)).mono ?_)
          rintro e wl ⟨rfl, rfl⟩
          rw [HF.out]
          go_wp2_with (go_at_call 22; refine (Digits_any nb _ (by omega)).mono ?_)
          rintro e w2 ⟨rfl, hb2⟩
          have hb12 := bel2 hb1 hb2
          go_wp2_with (go_at_call 13; refine (HX.out _ _ (by simp [lzS])).mono ?_)
          rintro e w5 ⟨hb5, cc5, rfl, hv5⟩
          obtain ⟨k5, c5, n5, r5, l5, h5, z5, s5, a5, d5, b5, g5, hx5, rfl⟩ := hv5.box
          have HV5 := Lib.hid hv5
          have HX5 := Lib.hid hx5
          clear hv5 hx5
          unfold rxc at HV5 ⊢
          have hbw5 := bel2 hb12 hb5
          go_wp2_with (go_at_call 15; refine (Same_eq _ (small_rep0 _ _ _) (HV5.out.later (by (repeat (first | with_reducible exact Below.refl _ _ | with_reducible assumption | (refine Below.setCell ?_ (by simp) _) | (refine Below.alloc ?_ (by first | (simp; done) | (simp; omega)) _) | (refine Below.drew ?_))))) (rep_lit (kid_at _ _ _))).mono ?_)
          rintro e w6 ⟨rfl, hb6⟩
          go_wp2_with (go_at_call 12; refine (awake_any _).mono ?_; rintro e w9 ⟨rfl, hb9⟩)
          go_ret
          refine ⟨rfl, bel2 (bel2 ?_ hb6) hb9⟩
          have hz5 := hbw5.size
          (repeat (first | with_reducible exact Below.refl _ _ | with_reducible assumption | (refine Below.setCell ?_ (by simp) _) | (refine Below.alloc ?_ (by first | omega | (simp; done) | (simp; omega)) _) | (refine Below.drew ?_)))
        | false =>
          have HX := Lib.hid (readH (hr false) (by simp [lzS]; omega))
          clear hr
          go_enter Try.func7, Try.ntmps7
          go_wp2_with (go_at_call 21; refine (Low_any n 1201 _ (by decide) (by decide)).mono ?_)
          rintro e wl ⟨rfl, rfl⟩
          rw [HNA.out]
          go_wp2_with (go_at_call 21; refine (Low_any m 1201 _ (by decide) (by decide)).mono ?_)
          rintro e wl ⟨rfl, rfl⟩
          rw [HNB.out]
          go_wp2_with (go_at_call 22; refine (Digits_any na _ (by omega)).mono ?_)
          rintro e w1 ⟨rfl, hb1⟩
          go_wp2_with (go_at_call 21; refine (Low_any f 3 _ (by decide) (by decide)).mono ?_)
          rintro e wl ⟨rfl, rfl⟩
          rw [HF.out]
          go_wp2_with (go_at_call 22; refine (Digits_any nb _ (by omega)).mono ?_)
          rintro e w2 ⟨rfl, hb2⟩
          have hb12 := bel2 hb1 hb2
          go_wp2_with (go_at_call 13; refine (HX.out _ _ (by simp [lzS])).mono ?_)
          rintro e w5 ⟨hb5, cc5, rfl, hv5⟩
          obtain ⟨k5, c5, n5, r5, l5, h5, z5, s5, a5, d5, b5, g5, hx5, rfl⟩ := hv5.box
          have HV5 := Lib.hid hv5
          have HX5 := Lib.hid hx5
          clear hv5 hx5
          unfold rxc at HV5 ⊢
          have hbw5 := bel2 hb12 hb5
          go_wp2_with (go_at_call 15; refine (Same_eq _ (small_rep0 _ _ _) (HV5.out.later (by (repeat (first | with_reducible exact Below.refl _ _ | with_reducible assumption | (refine Below.setCell ?_ (by simp) _) | (refine Below.alloc ?_ (by first | (simp; done) | (simp; omega)) _) | (refine Below.drew ?_))))) (rep_lit (kid_at _ _ _))).mono ?_)
          rintro e w6 ⟨rfl, hb6⟩
          go_wp2_with (go_at_call 12; refine (awake_any _).mono ?_; rintro e w9 ⟨rfl, hb9⟩)
          go_ret
          refine ⟨rfl, bel2 (bel2 ?_ hb6) hb9⟩
          have hz5 := hbw5.size
          (repeat (first | with_reducible exact Below.refl _ _ | with_reducible assumption | (refine Below.setCell ?_ (by simp) _) | (refine Below.alloc ?_ (by first | omega | (simp; done) | (simp; omega)) _) | (refine Below.drew ?_)))
      · have d3 : decide ((na : Int) ≤ (nb : Int)) = false := decide_eq_false (by omega)
        have hr := fun lz => read_times_no hasc (by simp; omega) (fun z => by rw [bounds_c, if_neg (fun q => h3 q.2.2)]) lz
        cases lz with
        | true =>
          have HX := Lib.hid (readHno (hr true) (by simp [lzS]; omega))
          clear hr
          go_enter Try.func7, Try.ntmps7
          go_wp2_with (go_at_call 21; refine (Low_any n 1201 _ (by decide) (by decide)).mono ?_)
          rintro e wl ⟨rfl, rfl⟩
          rw [HNA.out]
          go_wp2_with (go_at_call 21; refine (Low_any m 1201 _ (by decide) (by decide)).mono ?_)
          rintro e wl ⟨rfl, rfl⟩
          rw [HNB.out]
          go_wp2_with (go_at_call 22; refine (Digits_any na _ (by omega)).mono ?_)
          rintro e w1 ⟨rfl, hb1⟩
          go_wp2_with (go_at_call 21; refine (Low_any f 3 _ (by decide) (by decide)).mono ?_)
          rintro e wl ⟨rfl, rfl⟩
          rw [HF.out]
          go_wp2_with (go_at_call 22; refine (Digits_any nb _ (by omega)).mono ?_)
          rintro e w2 ⟨rfl, hb2⟩
          have hb12 := bel2 hb1 hb2
          go_wp2_with (go_at_call 13; refine (HX.out _ _ (by simp [lzS])).mono ?_)
          rintro e w5 ⟨rfl, hb5⟩
          unfold rxv0
          have hbw5 := bel2 hb12 hb5
          go_wp2_with (go_at_call 12; refine (awake_any _).mono ?_; rintro e w9 ⟨rfl, hb9⟩)
          go_ret
          refine ⟨rfl, bel2 ?_ hb9⟩
          have hz5 := hbw5.size
          (repeat (first | with_reducible exact Below.refl _ _ | with_reducible assumption | (refine Below.setCell ?_ (by simp) _) | (refine Below.alloc ?_ (by first | omega | (simp; done) | (simp; omega)) _) | (refine Below.drew ?_)))
        | false =>
          have HX := Lib.hid (readHno (hr false) (by simp [lzS]; omega))
          clear hr
          go_enter Try.func7, Try.ntmps7
          go_wp2_with (go_at_call 21; refine (Low_any n 1201 _ (by decide) (by decide)).mono ?_)
          rintro e wl ⟨rfl, rfl⟩
          rw [HNA.out]
          go_wp2_with (go_at_call 21; refine (Low_any m 1201 _ (by decide) (by decide)).mono ?_)
          rintro e wl ⟨rfl, rfl⟩
          rw [HNB.out]
          go_wp2_with (go_at_call 22; refine (Digits_any na _ (by omega)).mono ?_)
          rintro e w1 ⟨rfl, hb1⟩
          go_wp2_with (go_at_call 21; refine (Low_any f 3 _ (by decide) (by decide)).mono ?_)
          rintro e wl ⟨rfl, rfl⟩
          rw [HF.out]
          go_wp2_with (go_at_call 22; refine (Digits_any nb _ (by omega)).mono ?_)
          rintro e w2 ⟨rfl, hb2⟩
          have hb12 := bel2 hb1 hb2
          go_wp2_with (go_at_call 13; refine (HX.out _ _ (by simp [lzS])).mono ?_)
          rintro e w5 ⟨rfl, hb5⟩
          unfold rxv0
          have hbw5 := bel2 hb12 hb5
          go_wp2_with (go_at_call 12; refine (awake_any _).mono ?_; rintro e w9 ⟨rfl, hb9⟩)
          go_ret
          refine ⟨rfl, bel2 ?_ hb9⟩
          have hz5 := hbw5.size
          (repeat (first | with_reducible exact Below.refl _ _ | with_reducible assumption | (refine Below.setCell ?_ (by simp) _) | (refine Below.alloc ?_ (by first | omega | (simp; done) | (simp; omega)) _) | (refine Below.drew ?_)))
    · have d2 : decide ((nb : Int) ≤ 255) = false := decide_eq_false (by omega)
      have hr := fun lz => read_times_no hasc (by simp; omega) (fun z => by rw [bounds_c, if_neg (fun q => h2 q.2.1)]) lz
      cases lz with
      | true =>
        have HX := Lib.hid (readHno (hr true) (by simp [lzS]; omega))
        clear hr
        go_enter Try.func7, Try.ntmps7
        go_wp2_with (go_at_call 21; refine (Low_any n 1201 _ (by decide) (by decide)).mono ?_)
        rintro e wl ⟨rfl, rfl⟩
        rw [HNA.out]
        go_wp2_with (go_at_call 21; refine (Low_any m 1201 _ (by decide) (by decide)).mono ?_)
        rintro e wl ⟨rfl, rfl⟩
        rw [HNB.out]
        go_wp2_with (go_at_call 22; refine (Digits_any na _ (by omega)).mono ?_)
        rintro e w1 ⟨rfl, hb1⟩
        go_wp2_with (go_at_call 21; refine (Low_any f 3 _ (by decide) (by decide)).mono ?_)
        rintro e wl ⟨rfl, rfl⟩
        rw [HF.out]
        go_wp2_with (go_at_call 22; refine (Digits_any nb _ (by omega)).mono ?_)
        rintro e w2 ⟨rfl, hb2⟩
        have hb12 := bel2 hb1 hb2
        go_wp2_with (go_at_call 13; refine (HX.out _ _ (by simp [lzS])).mono ?_)
        rintro e w5 ⟨rfl, hb5⟩
        unfold rxv0
        have hbw5 := bel2 hb12 hb5
        go_wp2_with (go_at_call 12; refine (awake_any _).mono ?_; rintro e w9 ⟨rfl, hb9⟩)
        go_ret
        refine ⟨rfl, bel2 ?_ hb9⟩
        have hz5 := hbw5.size
        (repeat (first | with_reducible exact Below.refl _ _ | with_reducible assumption | (refine Below.setCell ?_ (by simp) _) | (refine Below.alloc ?_ (by first | omega | (simp; done) | (simp; omega)) _) | (refine Below.drew ?_)))
      | false =>
        have HX := Lib.hid (readHno (hr false) (by simp [lzS]; omega))
        clear hr
        go_enter Try.func7, Try.ntmps7
        go_wp2_with (go_at_call 21; refine (Low_any n 1201 _ (by decide) (by decide)).mono ?_)
        rintro e wl ⟨rfl, rfl⟩
        rw [HNA.out]
        go_wp2_with (go_at_call 21; refine (Low_any m 1201 _ (by decide) (by decide)).mono ?_)
        rintro e wl ⟨rfl, rfl⟩
        rw [HNB.out]
        go_wp2_with (go_at_call 22; refine (Digits_any na _ (by omega)).mono ?_)
        rintro e w1 ⟨rfl, hb1⟩
        go_wp2_with (go_at_call 21; refine (Low_any f 3 _ (by decide) (by decide)).mono ?_)
        rintro e wl ⟨rfl, rfl⟩
        rw [HF.out]
        go_wp2_with (go_at_call 22; refine (Digits_any nb _ (by omega)).mono ?_)
        rintro e w2 ⟨rfl, hb2⟩
        have hb12 := bel2 hb1 hb2
        go_wp2_with (go_at_call 13; refine (HX.out _ _ (by simp [lzS])).mono ?_)
        rintro e w5 ⟨rfl, hb5⟩
        unfold rxv0
        have hbw5 := bel2 hb12 hb5
        go_wp2_with (go_at_call 12; refine (awake_any _).mono ?_; rintro e w9 ⟨rfl, hb9⟩)
        go_ret
        refine ⟨rfl, bel2 ?_ hb9⟩
        have hz5 := hbw5.size
        (repeat (first | with_reducible exact Below.refl _ _ | with_reducible assumption | (refine Below.setCell ?_ (by simp) _) | (refine Below.alloc ?_ (by first | omega | (simp; done) | (simp; omega)) _) | (refine Below.drew ?_)))
  · have d1 : decide ((na : Int) ≤ 255) = false := decide_eq_false (by omega)
    have hr := fun lz => read_times_no hasc (by simp; omega) (fun z => by rw [bounds_c, if_neg (fun q => h1 q.1)]) lz
    cases lz with
    | true =>
      have HX := Lib.hid (readHno (hr true) (by simp [lzS]; omega))
      clear hr
      go_enter Try.func7, Try.ntmps7
      go_wp2_with (go_at_call 21; refine (Low_any n 1201 _ (by decide) (by decide)).mono ?_)
      rintro e wl ⟨rfl, rfl⟩
      rw [HNA.out]
      go_wp2_with (go_at_call 21; refine (Low_any m 1201 _ (by decide) (by decide)).mono ?_)
      rintro e wl ⟨rfl, rfl⟩
      rw [HNB.out]
      go_wp2_with (go_at_call 22; refine (Digits_any na _ (by omega)).mono ?_)
      rintro e w1 ⟨rfl, hb1⟩
      go_wp2_with (go_at_call 21; refine (Low_any f 3 _ (by decide) (by decide)).mono ?_)
      rintro e wl ⟨rfl, rfl⟩
      rw [HF.out]
      go_wp2_with (go_at_call 22; refine (Digits_any nb _ (by omega)).mono ?_)
      rintro e w2 ⟨rfl, hb2⟩
      have hb12 := bel2 hb1 hb2
      go_wp2_with (go_at_call 13; refine (HX.out _ _ (by simp [lzS])).mono ?_)
      rintro e w5 ⟨rfl, hb5⟩
      unfold rxv0
      have hbw5 := bel2 hb12 hb5
      go_wp2_with (go_at_call 12; refine (awake_any _).mono ?_; rintro e w9 ⟨rfl, hb9⟩)
      go_ret
      refine ⟨rfl, bel2 ?_ hb9⟩
      have hz5 := hbw5.size
      (repeat (first | with_reducible exact Below.refl _ _ | with_reducible assumption | (refine Below.setCell ?_ (by simp) _) | (refine Below.alloc ?_ (by first | omega | (simp; done) | (simp; omega)) _) | (refine Below.drew ?_)))
    | false =>
      have HX := Lib.hid (readHno (hr false) (by simp [lzS]; omega))
      clear hr
      go_enter Try.func7, Try.ntmps7
      go_wp2_with (go_at_call 21; refine (Low_any n 1201 _ (by decide) (by decide)).mono ?_)
      rintro e wl ⟨rfl, rfl⟩
      rw [HNA.out]
      go_wp2_with (go_at_call 21; refine (Low_any m 1201 _ (by decide) (by decide)).mono ?_)
      rintro e wl ⟨rfl, rfl⟩
      rw [HNB.out]
      go_wp2_with (go_at_call 22; refine (Digits_any na _ (by omega)).mono ?_)
      rintro e w1 ⟨rfl, hb1⟩
      go_wp2_with (go_at_call 21; refine (Low_any f 3 _ (by decide) (by decide)).mono ?_)
      rintro e wl ⟨rfl, rfl⟩
      rw [HF.out]
      go_wp2_with (go_at_call 22; refine (Digits_any nb _ (by omega)).mono ?_)
      rintro e w2 ⟨rfl, hb2⟩
      have hb12 := bel2 hb1 hb2
      go_wp2_with (go_at_call 13; refine (HX.out _ _ (by simp [lzS])).mono ?_)
      rintro e w5 ⟨rfl, hb5⟩
      unfold rxv0
      have hbw5 := bel2 hb12 hb5
      go_wp2_with (go_at_call 12; refine (awake_any _).mono ?_; rintro e w9 ⟨rfl, hb9⟩)
      go_ret
      refine ⟨rfl, bel2 ?_ hb9⟩
      have hz5 := hbw5.size
      (repeat (first | with_reducible exact Below.refl _ _ | with_reducible assumption | (refine Below.setCell ?_ (by simp) _) | (refine Below.alloc ?_ (by first | omega | (simp; done) | (simp; omega)) _) | (refine Below.drew ?_)))
theorem ReadTimes_walk (n m f : Int) (lz : Bool) (w : World) : Calls Try.prog 7 #[.int .i64 n, .int .i64 m, .int .i64 f, .bool lz] w fun e w' => e = .returned (.bool true) ∧ Below w.heap.size w w' := by
  have a := low_lt n (n := 1201) (by omega)
  have b := low_lt m (n := 1201) (by omega)
  have c := low_lt f (n := 3) (by omega)
  have ha : low n 1201 = ((low n 1201).toNat : Int) := by omega
  have hb : low m 1201 = ((low m 1201).toNat : Int) := by omega
  rcases (show low f 3 = 0 ∨ low f 3 = 1 ∨ low f 3 = 2 by omega) with h | h | h
  · exact times0 (Lib.hid ha) (Lib.hid hb) (Lib.hid h) (by omega) w
  · exact times1 (Lib.hid ha) (Lib.hid hb) (Lib.hid h) (by omega) w
  · exact times2 (Lib.hid ha) (Lib.hid hb) (Lib.hid h) (by omega) (by omega) w
end Go.Proofs.Ytpggnfpjjppbmaa
