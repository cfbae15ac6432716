/- walk of gimletlaw14.ReadEscape -/
import Derived.Test.YtpggnfpjjppbmaaLawMay
import Derived.Test.YtpggnfpjjppbmaaBP
import Derived.Test.YtpggnfpjjppbmaaLawGroup
set_option maxRecDepth 100000
namespace Go.Proofs.Ytpggnfpjjppbmaa
open Go.RowKit
theorem conv_byte (W : World) (c : UInt8) (z : Int) (hz : z = c.toNat) : (convert 34 9 (.slice (some ⟨W.heap.size, 0, none⟩) 1 1)).run Try.prog (W.alloc (.cells #[.int .u8 z] 5)) = .ok (.string ⟨([c]).toArray⟩) (W.alloc (.cells #[.int .u8 z] 5)) := by
  subst hz
  refine conv_own (B := W.heap.size) (n := 1) Try.underlying34 Try.underlying5 Try.underlying9 ?_
  refine ⟨rfl, .inr ⟨W.heap.size, 1, _, rfl, Nat.le_refl _, heap_alloc_new W _, by decide, by decide, rfl, ?_⟩⟩
  simp [bcells]
theorem set_v {W : World} {S : Nat → Prop} {a : Option Addr} {rs : List Row} {ng : Bool} {k : Nat} (h : SlS W S a 2 rs.length (rcells rs)) : RxV W S [.int .i64 4, .string ⟨#[]⟩, .bool ng, .slice a rs.length k, .int .i64 0, .int .i64 0, .bool false, .slice none 0 0] (setR rs ng) :=
  RxV.close (ks := []) h ⟨[], SlS.none_ _ _ _ _, .nil⟩
def letB (c : UInt8) : Bool := decide (65 ≤ c.toNat ∧ c.toNat ≤ 90) || decide (97 ≤ c.toNat ∧ c.toNat ≤ 122)
def dgtB (c : UInt8) : Bool := decide (48 ≤ c.toNat ∧ c.toNat ≤ 57)
theorem ldB_eq (c : UInt8) : ldB c = (letB c || dgtB c) := by
  unfold ldB letB dgtB
  rw [Bool.eq_iff_iff]
  simp only [Bool.or_eq_true, decide_eq_true_eq]
  omega
set_option maxHeartbeats 400000 in
theorem Letter_any (c : UInt8) (w : World) : Calls Try.prog 19 #[.int .u8 c.toNat] w fun e w' => e = .returned (.bool (letB c)) ∧ w = w' := by
  go_enter Try.func19, Try.ntmps19
  go_wp2
  all_goals (go_ret; refine ⟨ret_bool ?_, rfl⟩; unfold letB; rw [Bool.eq_iff_iff]; simp only [Bool.or_eq_true, decide_eq_true_eq]; first | omega | (simp; omega) | skip)
set_option maxHeartbeats 400000 in
theorem Digit_any (c : UInt8) (w : World) : Calls Try.prog 20 #[.int .u8 c.toNat] w fun e w' => e = .returned (.bool (dgtB c)) ∧ w = w' := by
  go_enter Try.func20, Try.ntmps20
  go_wp2
  all_goals (go_ret; refine ⟨ret_bool ?_, rfl⟩; unfold dgtB; rw [Bool.eq_iff_iff]; simp only [decide_eq_true_eq]; first | omega | (simp; omega) | skip)
def EscPost (w : World) (e : Ending) (w' : World) : Prop := e = .returned (.bool true) ∧ Below w.heap.size w w'
set_option maxHeartbeats 4000000 in
theorem esc98 (w : World) : Calls Try.prog 6 #[.int .u8 (98 : Nat)] w fun e w' => EscPost w e w' := by
  have HX := Lib.hid (fun w => Read_ok w (by simp) read_esc_98)
  have hc1 := conv_byte w 98 98 rfl
  have HSX := Lib.hid (readM_small read_esc_98).1
  have hal : Below w.heap.size w (w.alloc (.cells #[.int .u8 98] 5)) := (Below.refl _ _).alloc (Nat.le_refl _) _
  go_enter Try.func6, Try.ntmps6
  go_wp2_with (go_at_call 13; refine (HX.out _).mono ?_)
  rintro e w1 ⟨hb1, cc1, rfl, hv1⟩
  obtain ⟨k1, c1, n1, r1, l1, h1, z1, s1, a1, d1, b1, g1, hx1, rfl⟩ := hv1.box
  have HV1 := Lib.hid hv1
  have HX1 := Lib.hid hx1
  clear hv1 hx1
  unfold rxc at HV1 ⊢
  have hz1 := hb1.size
  simp only [World.size_alloc] at hz1
  have hbw1 := bel2 hal hb1
  have hc2 := conv_byte (w1.alloc (.cells #[.int .i64 k1, .string ⟨(c1).toArray⟩, .bool n1, .slice a1 r1.length d1, .int .i64 l1, .int .i64 h1, .bool z1, .slice b1 s1.length g1] 26)) 98 98 rfl
  rw [World.size_alloc] at hc2
  have hc3 := conv_byte (((w1.alloc (.cells #[.int .i64 k1, .string ⟨(c1).toArray⟩, .bool n1, .slice a1 r1.length d1, .int .i64 l1, .int .i64 h1, .bool z1, .slice b1 s1.length g1] 26)).alloc (.cells #[.int .u8 98] 5)).alloc (.cells #[.int .i64 2, .string ⟨#[98]⟩, .bool false, .slice none 0 0, .int .i64 0, .int .i64 0, .bool false, .slice none 0 0] 26)) 98 (bits BinOp.or IntKind.u8 98 32) (by decide)
  simp only [World.size_alloc] at hc3
  clear hb1 hal HX1
  go_wp2_with (go_at_call 15; refine (Same_eq _ HSX.out (HV1.out.later (by (repeat (first | with_reducible exact Below.refl _ _ | with_reducible assumption | (refine Below.setCell ?_ (by simp) _) | (refine Below.alloc ?_ (by first | (simp; done) | (simp; omega)) _) | (refine Below.drew ?_))))) ((leaf_v (k := 10) (c := [])))).mono ?_)
  rintro e w6 ⟨rfl, hb6⟩
  go_wp2_with (go_at_call 12; refine (awake_any _).mono ?_; rintro e w9 ⟨rfl, hb9⟩)
  go_ret
  refine ⟨rfl, bel2 (bel2 ?_ hb6) hb9⟩
  (repeat (first | with_reducible exact Below.refl _ _ | with_reducible assumption | (refine Below.setCell ?_ (by simp) _) | (refine Below.alloc ?_ (by first | omega | (simp; done) | (simp; omega)) _) | (refine Below.drew ?_)))
set_option maxHeartbeats 4000000 in
  theorem esc66 (w : World) : Calls Try.prog 6 #[.int .u8 (66 : Nat)] w fun e w' => EscPost w e w' := by
    have HX := Lib.hid (fun w => Read_ok w (by simp) read_esc_66)
    have hc1 := conv_byte w 66 66 rfl
    have HSX := Lib.hid (readM_small read_esc_66).1
    have hal : Below w.heap.size w (w.alloc (.cells #[.int .u8 66] 5)) := (Below.refl _ _).alloc (Nat.le_refl _) _
    go_enter Try.func6, Try.ntmps6
    go_wp2_with (go_at_call 13; refine (HX.out _).mono ?_)
    rintro e w1 ⟨hb1, cc1, rfl, hv1⟩
    obtain ⟨k1, c1, n1, r1, l1, h1, z1, s1, a1, d1, b1, g1, hx1, rfl⟩ := hv1.box
    have HV1 := Lib.hid hv1
    have HX1 := Lib.hid hx1
    clear hv1 hx1
    unfold rxc at HV1 ⊢
    have hz1 := hb1.size
    simp only [World.size_alloc] at hz1
    have hbw1 := bel2 hal hb1
    have hc2 := conv_byte (w1.alloc (.cells #[.int .i64 k1, .string ⟨(c1).toArray⟩, .bool n1, .slice a1 r1.length d1, .int .i64 l1, .int .i64 h1, .bool z1, .slice b1 s1.length g1] 26)) 66 66 rfl
    rw [World.size_alloc] at hc2
    have hc3 := conv_byte (((w1.alloc (.cells #[.int .i64 k1, .string ⟨(c1).toArray⟩, .bool n1, .slice a1 r1.length d1, .int .i64 l1, .int .i64 h1, .bool z1, .slice b1 s1.length g1] 26)).alloc (.cells #[.int .u8 66] 5)).alloc (.cells #[.int .i64 2, .string ⟨#[66]⟩, .bool false, .slice none 0 0, .int .i64 0, .int .i64 0, .bool false, .slice none 0 0] 26)) 98 (bits BinOp.or IntKind.u8 66 32) (by decide)
    simp only [World.size_alloc] at hc3
    clear hb1 hal HX1
    go_wp2_with (go_at_call 15; refine (Same_eq _ HSX.out (HV1.out.later (by (repeat (first | with_reducible exact Below.refl _ _ | with_reducible assumption | (refine Below.setCell ?_ (by simp) _) | (refine Below.alloc ?_ (by first | (simp; done) | (simp; omega)) _) | (refine Below.drew ?_))))) ((leaf_v (k := 11) (c := [])))).mono ?_)
    rintro e w6 ⟨rfl, hb6⟩
    go_wp2_with (go_at_call 12; refine (awake_any _).mono ?_; rintro e w9 ⟨rfl, hb9⟩)
    go_ret
    refine ⟨rfl, bel2 (bel2 ?_ hb6) hb9⟩
    (repeat (first | with_reducible exact Below.refl _ _ | with_reducible assumption | (refine Below.setCell ?_ (by simp) _) | (refine Below.alloc ?_ (by first | omega | (simp; done) | (simp; omega)) _) | (refine Below.drew ?_)))
set_option maxHeartbeats 4000000 in
    theorem esc110 (w : World) : Calls Try.prog 6 #[.int .u8 (110 : Nat)] w fun e w' => EscPost w e w' := by
      have HX := Lib.hid (fun w => Read_ok w (by simp) read_esc_110)
      have hc1 := conv_byte w 110 110 rfl
      have HSX := Lib.hid (readM_small read_esc_110).1
      have hal : Below w.heap.size w (w.alloc (.cells #[.int .u8 110] 5)) := (Below.refl _ _).alloc (Nat.le_refl _) _
      go_enter Try.func6, Try.ntmps6
      go_wp2_with (go_at_call 13; refine (HX.out _).mono ?_)
      rintro e w1 ⟨hb1, cc1, rfl, hv1⟩
      obtain ⟨k1, c1, n1, r1, l1, h1, z1, s1, a1, d1, b1, g1, hx1, rfl⟩ := hv1.box
      have HV1 := Lib.hid hv1
      have HX1 := Lib.hid hx1
      clear hv1 hx1
      unfold rxc at HV1 ⊢
      have hz1 := hb1.size
      simp only [World.size_alloc] at hz1
      have hbw1 := bel2 hal hb1
      have hc2 := conv_byte (w1.alloc (.cells #[.int .i64 k1, .string ⟨(c1).toArray⟩, .bool n1, .slice a1 r1.length d1, .int .i64 l1, .int .i64 h1, .bool z1, .slice b1 s1.length g1] 26)) 110 110 rfl
      rw [World.size_alloc] at hc2
      have hc3 := conv_byte (((w1.alloc (.cells #[.int .i64 k1, .string ⟨(c1).toArray⟩, .bool n1, .slice a1 r1.length d1, .int .i64 l1, .int .i64 h1, .bool z1, .slice b1 s1.length g1] 26)).alloc (.cells #[.int .u8 110] 5)).alloc (.cells #[.int .i64 2, .string ⟨#[110]⟩, .bool false, .slice none 0 0, .int .i64 0, .int .i64 0, .bool false, .slice none 0 0] 26)) 110 (bits BinOp.or IntKind.u8 110 32) (by decide)
      simp only [World.size_alloc] at hc3
      clear hb1 hal HX1
      go_wp2_with (go_at_call 15; refine (Same_eq _ HSX.out (HV1.out.later (by (repeat (first | with_reducible exact Below.refl _ _ | with_reducible assumption | (refine Below.setCell ?_ (by simp) _) | (refine Below.alloc ?_ (by first | (simp; done) | (simp; omega)) _) | (refine Below.drew ?_))))) ((leaf_v (k := 2) (c := [10])))).mono ?_)
      rintro e w6 ⟨rfl, hb6⟩
      go_wp2_with (go_at_call 12; refine (awake_any _).mono ?_; rintro e w9 ⟨rfl, hb9⟩)
      go_ret
      refine ⟨rfl, bel2 (bel2 ?_ hb6) hb9⟩
      (repeat (first | with_reducible exact Below.refl _ _ | with_reducible assumption | (refine Below.setCell ?_ (by simp) _) | (refine Below.alloc ?_ (by first | omega | (simp; done) | (simp; omega)) _) | (refine Below.drew ?_)))
set_option maxHeartbeats 4000000 in
      theorem esc114 (w : World) : Calls Try.prog 6 #[.int .u8 (114 : Nat)] w fun e w' => EscPost w e w' := by
        have HX := Lib.hid (fun w => Read_ok w (by simp) read_esc_114)
        have hc1 := conv_byte w 114 114 rfl
        have HSX := Lib.hid (readM_small read_esc_114).1
        have hal : Below w.heap.size w (w.alloc (.cells #[.int .u8 114] 5)) := (Below.refl _ _).alloc (Nat.le_refl _) _
        go_enter Try.func6, Try.ntmps6
        go_wp2_with (go_at_call 13; refine (HX.out _).mono ?_)
        rintro e w1 ⟨hb1, cc1, rfl, hv1⟩
        obtain ⟨k1, c1, n1, r1, l1, h1, z1, s1, a1, d1, b1, g1, hx1, rfl⟩ := hv1.box
        have HV1 := Lib.hid hv1
        have HX1 := Lib.hid hx1
        clear hv1 hx1
        unfold rxc at HV1 ⊢
        have hz1 := hb1.size
        simp only [World.size_alloc] at hz1
        have hbw1 := bel2 hal hb1
        have hc2 := conv_byte (w1.alloc (.cells #[.int .i64 k1, .string ⟨(c1).toArray⟩, .bool n1, .slice a1 r1.length d1, .int .i64 l1, .int .i64 h1, .bool z1, .slice b1 s1.length g1] 26)) 114 114 rfl
        rw [World.size_alloc] at hc2
        have hc3 := conv_byte (((w1.alloc (.cells #[.int .i64 k1, .string ⟨(c1).toArray⟩, .bool n1, .slice a1 r1.length d1, .int .i64 l1, .int .i64 h1, .bool z1, .slice b1 s1.length g1] 26)).alloc (.cells #[.int .u8 114] 5)).alloc (.cells #[.int .i64 2, .string ⟨#[114]⟩, .bool false, .slice none 0 0, .int .i64 0, .int .i64 0, .bool false, .slice none 0 0] 26)) 114 (bits BinOp.or IntKind.u8 114 32) (by decide)
        simp only [World.size_alloc] at hc3
        clear hb1 hal HX1
        go_wp2_with (go_at_call 15; refine (Same_eq _ HSX.out (HV1.out.later (by (repeat (first | with_reducible exact Below.refl _ _ | with_reducible assumption | (refine Below.setCell ?_ (by simp) _) | (refine Below.alloc ?_ (by first | (simp; done) | (simp; omega)) _) | (refine Below.drew ?_))))) ((leaf_v (k := 2) (c := [13])))).mono ?_)
        rintro e w6 ⟨rfl, hb6⟩
        go_wp2_with (go_at_call 12; refine (awake_any _).mono ?_; rintro e w9 ⟨rfl, hb9⟩)
        go_ret
        refine ⟨rfl, bel2 (bel2 ?_ hb6) hb9⟩
        (repeat (first | with_reducible exact Below.refl _ _ | with_reducible assumption | (refine Below.setCell ?_ (by simp) _) | (refine Below.alloc ?_ (by first | omega | (simp; done) | (simp; omega)) _) | (refine Below.drew ?_)))
set_option maxHeartbeats 4000000 in
        theorem esc116 (w : World) : Calls Try.prog 6 #[.int .u8 (116 : Nat)] w fun e w' => EscPost w e w' := by
          have HX := Lib.hid (fun w => Read_ok w (by simp) read_esc_116)
          have hc1 := conv_byte w 116 116 rfl
          have HSX := Lib.hid (readM_small read_esc_116).1
          have hal : Below w.heap.size w (w.alloc (.cells #[.int .u8 116] 5)) := (Below.refl _ _).alloc (Nat.le_refl _) _
          go_enter Try.func6, Try.ntmps6
          go_wp2_with (go_at_call 13; refine (HX.out _).mono ?_)
          rintro e w1 ⟨hb1, cc1, rfl, hv1⟩
          obtain ⟨k1, c1, n1, r1, l1, h1, z1, s1, a1, d1, b1, g1, hx1, rfl⟩ := hv1.box
          have HV1 := Lib.hid hv1
          have HX1 := Lib.hid hx1
          clear hv1 hx1
          unfold rxc at HV1 ⊢
          have hz1 := hb1.size
          simp only [World.size_alloc] at hz1
          have hbw1 := bel2 hal hb1
          have hc2 := conv_byte (w1.alloc (.cells #[.int .i64 k1, .string ⟨(c1).toArray⟩, .bool n1, .slice a1 r1.length d1, .int .i64 l1, .int .i64 h1, .bool z1, .slice b1 s1.length g1] 26)) 116 116 rfl
          rw [World.size_alloc] at hc2
          have hc3 := conv_byte (((w1.alloc (.cells #[.int .i64 k1, .string ⟨(c1).toArray⟩, .bool n1, .slice a1 r1.length d1, .int .i64 l1, .int .i64 h1, .bool z1, .slice b1 s1.length g1] 26)).alloc (.cells #[.int .u8 116] 5)).alloc (.cells #[.int .i64 2, .string ⟨#[116]⟩, .bool false, .slice none 0 0, .int .i64 0, .int .i64 0, .bool false, .slice none 0 0] 26)) 116 (bits BinOp.or IntKind.u8 116 32) (by decide)
          simp only [World.size_alloc] at hc3
          clear hb1 hal HX1
          go_wp2_with (go_at_call 15; refine (Same_eq _ HSX.out (HV1.out.later (by (repeat (first | with_reducible exact Below.refl _ _ | with_reducible assumption | (refine Below.setCell ?_ (by simp) _) | (refine Below.alloc ?_ (by first | (simp; done) | (simp; omega)) _) | (refine Below.drew ?_))))) ((leaf_v (k := 2) (c := [9])))).mono ?_)
          rintro e w6 ⟨rfl, hb6⟩
          go_wp2_with (go_at_call 12; refine (awake_any _).mono ?_; rintro e w9 ⟨rfl, hb9⟩)
          go_ret
          refine ⟨rfl, bel2 (bel2 ?_ hb6) hb9⟩
          (repeat (first | with_reducible exact Below.refl _ _ | with_reducible assumption | (refine Below.setCell ?_ (by simp) _) | (refine Below.alloc ?_ (by first | omega | (simp; done) | (simp; omega)) _) | (refine Below.drew ?_)))
set_option maxHeartbeats 4000000 in
          theorem esc102 (w : World) : Calls Try.prog 6 #[.int .u8 (102 : Nat)] w fun e w' => EscPost w e w' := by
            have HX := Lib.hid (fun w => Read_ok w (by simp) read_esc_102)
            have hc1 := conv_byte w 102 102 rfl
            have HSX := Lib.hid (readM_small read_esc_102).1
            have hal : Below w.heap.size w (w.alloc (.cells #[.int .u8 102] 5)) := (Below.refl _ _).alloc (Nat.le_refl _) _
            go_enter Try.func6, Try.ntmps6
            go_wp2_with (go_at_call 13; refine (HX.out _).mono ?_)
            rintro e w1 ⟨hb1, cc1, rfl, hv1⟩
            obtain ⟨k1, c1, n1, r1, l1, h1, z1, s1, a1, d1, b1, g1, hx1, rfl⟩ := hv1.box
            have HV1 := Lib.hid hv1
            have HX1 := Lib.hid hx1
            clear hv1 hx1
            unfold rxc at HV1 ⊢
            have hz1 := hb1.size
            simp only [World.size_alloc] at hz1
            have hbw1 := bel2 hal hb1
            have hc2 := conv_byte (w1.alloc (.cells #[.int .i64 k1, .string ⟨(c1).toArray⟩, .bool n1, .slice a1 r1.length d1, .int .i64 l1, .int .i64 h1, .bool z1, .slice b1 s1.length g1] 26)) 102 102 rfl
            rw [World.size_alloc] at hc2
            have hc3 := conv_byte (((w1.alloc (.cells #[.int .i64 k1, .string ⟨(c1).toArray⟩, .bool n1, .slice a1 r1.length d1, .int .i64 l1, .int .i64 h1, .bool z1, .slice b1 s1.length g1] 26)).alloc (.cells #[.int .u8 102] 5)).alloc (.cells #[.int .i64 2, .string ⟨#[102]⟩, .bool false, .slice none 0 0, .int .i64 0, .int .i64 0, .bool false, .slice none 0 0] 26)) 102 (bits BinOp.or IntKind.u8 102 32) (by decide)
            simp only [World.size_alloc] at hc3
            clear hb1 hal HX1
            go_wp2_with (go_at_call 15; refine (Same_eq _ HSX.out (HV1.out.later (by (repeat (first | with_reducible exact Below.refl _ _ | with_reducible assumption | (refine Below.setCell ?_ (by simp) _) | (refine Below.alloc ?_ (by first | (simp; done) | (simp; omega)) _) | (refine Below.drew ?_))))) ((leaf_v (k := 2) (c := [12])))).mono ?_)
            rintro e w6 ⟨rfl, hb6⟩
            go_wp2_with (go_at_call 12; refine (awake_any _).mono ?_; rintro e w9 ⟨rfl, hb9⟩)
            go_ret
            refine ⟨rfl, bel2 (bel2 ?_ hb6) hb9⟩
            (repeat (first | with_reducible exact Below.refl _ _ | with_reducible assumption | (refine Below.setCell ?_ (by simp) _) | (refine Below.alloc ?_ (by first | omega | (simp; done) | (simp; omega)) _) | (refine Below.drew ?_)))
set_option maxHeartbeats 4000000 in
            theorem esc118 (w : World) : Calls Try.prog 6 #[.int .u8 (118 : Nat)] w fun e w' => EscPost w e w' := by
              have HX := Lib.hid (fun w => Read_ok w (by simp) read_esc_118)
              have hc1 := conv_byte w 118 118 rfl
              have HSX := Lib.hid (readM_small read_esc_118).1
              have hal : Below w.heap.size w (w.alloc (.cells #[.int .u8 118] 5)) := (Below.refl _ _).alloc (Nat.le_refl _) _
              go_enter Try.func6, Try.ntmps6
              go_wp2_with (go_at_call 13; refine (HX.out _).mono ?_)
              rintro e w1 ⟨hb1, cc1, rfl, hv1⟩
              obtain ⟨k1, c1, n1, r1, l1, h1, z1, s1, a1, d1, b1, g1, hx1, rfl⟩ := hv1.box
              have HV1 := Lib.hid hv1
              have HX1 := Lib.hid hx1
              clear hv1 hx1
              unfold rxc at HV1 ⊢
              have hz1 := hb1.size
              simp only [World.size_alloc] at hz1
              have hbw1 := bel2 hal hb1
              have hc2 := conv_byte (w1.alloc (.cells #[.int .i64 k1, .string ⟨(c1).toArray⟩, .bool n1, .slice a1 r1.length d1, .int .i64 l1, .int .i64 h1, .bool z1, .slice b1 s1.length g1] 26)) 118 118 rfl
              rw [World.size_alloc] at hc2
              have hc3 := conv_byte (((w1.alloc (.cells #[.int .i64 k1, .string ⟨(c1).toArray⟩, .bool n1, .slice a1 r1.length d1, .int .i64 l1, .int .i64 h1, .bool z1, .slice b1 s1.length g1] 26)).alloc (.cells #[.int .u8 118] 5)).alloc (.cells #[.int .i64 2, .string ⟨#[118]⟩, .bool false, .slice none 0 0, .int .i64 0, .int .i64 0, .bool false, .slice none 0 0] 26)) 118 (bits BinOp.or IntKind.u8 118 32) (by decide)
              simp only [World.size_alloc] at hc3
              clear hb1 hal HX1
              go_wp2_with (go_at_call 15; refine (Same_eq _ HSX.out (HV1.out.later (by (repeat (first | with_reducible exact Below.refl _ _ | with_reducible assumption | (refine Below.setCell ?_ (by simp) _) | (refine Below.alloc ?_ (by first | (simp; done) | (simp; omega)) _) | (refine Below.drew ?_))))) ((leaf_v (k := 2) (c := [11])))).mono ?_)
              rintro e w6 ⟨rfl, hb6⟩
              go_wp2_with (go_at_call 12; refine (awake_any _).mono ?_; rintro e w9 ⟨rfl, hb9⟩)
              go_ret
              refine ⟨rfl, bel2 (bel2 ?_ hb6) hb9⟩
              (repeat (first | with_reducible exact Below.refl _ _ | with_reducible assumption | (refine Below.setCell ?_ (by simp) _) | (refine Below.alloc ?_ (by first | omega | (simp; done) | (simp; omega)) _) | (refine Below.drew ?_)))
set_option maxHeartbeats 4000000 in
              theorem esc100 (w : World) : Calls Try.prog 6 #[.int .u8 (100 : Nat)] w fun e w' => EscPost w e w' := by
                have HX := Lib.hid (fun w => Read_ok w (by simp) read_esc_100)
                have hc1 := conv_byte w 100 100 rfl
                have HSX := Lib.hid (readM_small read_esc_100).1
                have hal : Below w.heap.size w (w.alloc (.cells #[.int .u8 100] 5)) := (Below.refl _ _).alloc (Nat.le_refl _) _
                go_enter Try.func6, Try.ntmps6
                go_wp2_with (go_at_call 13; refine (HX.out _).mono ?_)
                rintro e w1 ⟨hb1, cc1, rfl, hv1⟩
                obtain ⟨k1, c1, n1, r1, l1, h1, z1, s1, a1, d1, b1, g1, hx1, rfl⟩ := hv1.box
                have HV1 := Lib.hid hv1
                have HX1 := Lib.hid hx1
                clear hv1 hx1
                unfold rxc at HV1 ⊢
                have hz1 := hb1.size
                simp only [World.size_alloc] at hz1
                have hbw1 := bel2 hal hb1
                have hc2 := conv_byte (w1.alloc (.cells #[.int .i64 k1, .string ⟨(c1).toArray⟩, .bool n1, .slice a1 r1.length d1, .int .i64 l1, .int .i64 h1, .bool z1, .slice b1 s1.length g1] 26)) 100 100 rfl
                rw [World.size_alloc] at hc2
                have hc3 := conv_byte (((w1.alloc (.cells #[.int .i64 k1, .string ⟨(c1).toArray⟩, .bool n1, .slice a1 r1.length d1, .int .i64 l1, .int .i64 h1, .bool z1, .slice b1 s1.length g1] 26)).alloc (.cells #[.int .u8 100] 5)).alloc (.cells #[.int .i64 2, .string ⟨#[100]⟩, .bool false, .slice none 0 0, .int .i64 0, .int .i64 0, .bool false, .slice none 0 0] 26)) 100 (bits BinOp.or IntKind.u8 100 32) (by decide)
                simp only [World.size_alloc] at hc3
                clear hb1 hal HX1
                go_wp2_with (go_at_call 18; refine (Named_any 100 _).mono ?_)
                rintro e w2 ⟨na, nk, rfl, hsl, hb2, hna⟩
                have HSL := Lib.hid hsl
                obtain ⟨wz, hwz⟩ : ∃ wz, wz = ((((w1.alloc (.cells #[.int .i64 k1, .string ⟨(c1).toArray⟩, .bool n1, .slice a1 r1.length d1, .int .i64 l1, .int .i64 h1, .bool z1, .slice b1 s1.length g1] 26)).alloc (.cells #[.int .u8 100] 5)).alloc (.cells #[.int .i64 2, .string ⟨#[100]⟩, .bool false, .slice none 0 0, .int .i64 0, .int .i64 0, .bool false, .slice none 0 0] 26)).alloc (.cells #[.int .u8 (bits BinOp.or IntKind.u8 100 32)] 5)) := ⟨_, rfl⟩
                rw [← hwz] at hb2
                have hz2 := hb2.size
                have hbz : Below w1.heap.size w1 wz := by
                  rw [hwz]; (repeat (first | with_reducible exact Below.refl _ _ | with_reducible assumption | (refine Below.setCell ?_ (by simp) _) | (refine Below.alloc ?_ (by first | omega | (simp; done) | (simp; omega)) _) | (refine Below.drew ?_)))
                have q1 : wz.heap[w1.heap.size]? = some (.cells #[.int .i64 k1, .string ⟨(c1).toArray⟩, .bool n1, .slice a1 r1.length d1, .int .i64 l1, .int .i64 h1, .bool z1, .slice b1 s1.length g1] 26 (0, 0)) := by
                  rw [hwz, Below.heap_alloc _ _ _ (by simp; omega), Below.heap_alloc _ _ _ (by simp; omega), Below.heap_alloc _ _ _ (by simp)]; exact heap_alloc_new w1 _
                have q2 : wz.heap[w1.heap.size + 1 + 1]? = some (.cells #[.int .i64 2, .string ⟨#[100]⟩, .bool false, .slice none 0 0, .int .i64 0, .int .i64 0, .bool false, .slice none 0 0] 26 (0, 0)) := by
                  rw [hwz, Below.heap_alloc _ _ _ (by simp)]
                  have := heap_alloc_new ((w1.alloc (.cells #[.int .i64 k1, .string ⟨(c1).toArray⟩, .bool n1, .slice a1 r1.length d1, .int .i64 l1, .int .i64 h1, .bool z1, .slice b1 s1.length g1] 26)).alloc (.cells #[.int .u8 100] 5)) (.cells #[.int .i64 2, .string ⟨#[100]⟩, .bool false, .slice none 0 0, .int .i64 0, .int .i64 0, .bool false, .slice none 0 0] 26)
                  simpa using this
                obtain ⟨x0, x1, x2, x3, x4, x5, x6, x7, x8⟩ := bx_cells ((hb2.block _ (heap_lt q1)).trans q1)
                obtain ⟨y0, y1, y2, y3, y4, y5, y6, y7, y8⟩ := bx_cells (c := [100]) ((hb2.block _ (heap_lt q2)).trans q2)
                have hzz := hbz.size
                have hlz := heap_lt q2
                have hlt2 : w1.heap.size < w1.heap.size + 1 + 1 := by omega
                have hne2 : w1.heap.size ≠ w1.heap.size + 1 + 1 := by omega
                have hbw2 : Below w.heap.size w w2 := bel2 (bel2 hbw1 hbz) hb2
                have HV2 := Lib.hid (((HV1.out.mono (S' := fun b => b < w1.heap.size) fun _ _ h => h).later hbz).later hb2)
                have HZ := Lib.hid hwz
                have hsz := (congrArg (fun w : World => w.heap.size) hwz)
                simp only [World.size_alloc] at hsz
                rw [← hwz] at HSL
                clear q1 q2 hwz hb2 hbz hc1 hc2 hc3 hsl HV1 HZ hna
                rw [show namedB 100 = true from rfl]
                go_wp2_with (go_at_call 15; refine (Same_eq _ HSX.out (HV2.out.keep (set8_kept w2 (w1.heap.size + 1 + 1) (fun k hk => by have : k < w1.heap.size := hk; omega))) (set_v (HSL.out.keep (set8_kept w2 (w1.heap.size + 1 + 1) (fun k hk => by have : wz.heap.size ≤ k := hk; omega))))).mono ?_)
                rintro e w6 ⟨rfl, hb6⟩
                go_wp2_with (go_at_call 12; refine (awake_any _).mono ?_; rintro e w9 ⟨rfl, hb9⟩)
                go_ret
                refine ⟨rfl, bel2 (bel2 ?_ hb6) hb9⟩
                exact set8_below hbw2 (by omega)
set_option maxHeartbeats 4000000 in
                theorem esc119 (w : World) : Calls Try.prog 6 #[.int .u8 (119 : Nat)] w fun e w' => EscPost w e w' := by
                  have HX := Lib.hid (fun w => Read_ok w (by simp) read_esc_119)
                  have hc1 := conv_byte w 119 119 rfl
                  have HSX := Lib.hid (readM_small read_esc_119).1
                  have hal : Below w.heap.size w (w.alloc (.cells #[.int .u8 119] 5)) := (Below.refl _ _).alloc (Nat.le_refl _) _
                  go_enter Try.func6, Try.ntmps6
                  go_wp2_with (go_at_call 13; refine (HX.out _).mono ?_)
                  rintro e w1 ⟨hb1, cc1, rfl, hv1⟩
                  obtain ⟨k1, c1, n1, r1, l1, h1, z1, s1, a1, d1, b1, g1, hx1, rfl⟩ := hv1.box
                  have HV1 := Lib.hid hv1
                  have HX1 := Lib.hid hx1
                  clear hv1 hx1
                  unfold rxc at HV1 ⊢
                  have hz1 := hb1.size
                  simp only [World.size_alloc] at hz1
                  have hbw1 := bel2 hal hb1
                  have hc2 := conv_byte (w1.alloc (.cells #[.int .i64 k1, .string ⟨(c1).toArray⟩, .bool n1, .slice a1 r1.length d1, .int .i64 l1, .int .i64 h1, .bool z1, .slice b1 s1.length g1] 26)) 119 119 rfl
                  rw [World.size_alloc] at hc2
                  have hc3 := conv_byte (((w1.alloc (.cells #[.int .i64 k1, .string ⟨(c1).toArray⟩, .bool n1, .slice a1 r1.length d1, .int .i64 l1, .int .i64 h1, .bool z1, .slice b1 s1.length g1] 26)).alloc (.cells #[.int .u8 119] 5)).alloc (.cells #[.int .i64 2, .string ⟨#[119]⟩, .bool false, .slice none 0 0, .int .i64 0, .int .i64 0, .bool false, .slice none 0 0] 26)) 119 (bits BinOp.or IntKind.u8 119 32) (by decide)
                  simp only [World.size_alloc] at hc3
                  clear hb1 hal HX1
                  go_wp2_with (go_at_call 18; refine (Named_any 119 _).mono ?_)
                  rintro e w2 ⟨na, nk, rfl, hsl, hb2, hna⟩
                  have HSL := Lib.hid hsl
                  obtain ⟨wz, hwz⟩ : ∃ wz, wz = ((((w1.alloc (.cells #[.int .i64 k1, .string ⟨(c1).toArray⟩, .bool n1, .slice a1 r1.length d1, .int .i64 l1, .int .i64 h1, .bool z1, .slice b1 s1.length g1] 26)).alloc (.cells #[.int .u8 119] 5)).alloc (.cells #[.int .i64 2, .string ⟨#[119]⟩, .bool false, .slice none 0 0, .int .i64 0, .int .i64 0, .bool false, .slice none 0 0] 26)).alloc (.cells #[.int .u8 (bits BinOp.or IntKind.u8 119 32)] 5)) := ⟨_, rfl⟩
                  rw [← hwz] at hb2
                  have hz2 := hb2.size
                  have hbz : Below w1.heap.size w1 wz := by
                    rw [hwz]; (repeat (first | with_reducible exact Below.refl _ _ | with_reducible assumption | (refine Below.setCell ?_ (by simp) _) | (refine Below.alloc ?_ (by first | omega | (simp; done) | (simp; omega)) _) | (refine Below.drew ?_)))
                  have q1 : wz.heap[w1.heap.size]? = some (.cells #[.int .i64 k1, .string ⟨(c1).toArray⟩, .bool n1, .slice a1 r1.length d1, .int .i64 l1, .int .i64 h1, .bool z1, .slice b1 s1.length g1] 26 (0, 0)) := by
                    rw [hwz, Below.heap_alloc _ _ _ (by simp; omega), Below.heap_alloc _ _ _ (by simp; omega), Below.heap_alloc _ _ _ (by simp)]; exact heap_alloc_new w1 _
                  have q2 : wz.heap[w1.heap.size + 1 + 1]? = some (.cells #[.int .i64 2, .string ⟨#[119]⟩, .bool false, .slice none 0 0, .int .i64 0, .int .i64 0, .bool false, .slice none 0 0] 26 (0, 0)) := by
                    rw [hwz, Below.heap_alloc _ _ _ (by simp)]
                    have := heap_alloc_new ((w1.alloc (.cells #[.int .i64 k1, .string ⟨(c1).toArray⟩, .bool n1, .slice a1 r1.length d1, .int .i64 l1, .int .i64 h1, .bool z1, .slice b1 s1.length g1] 26)).alloc (.cells #[.int .u8 119] 5)) (.cells #[.int .i64 2, .string ⟨#[119]⟩, .bool false, .slice none 0 0, .int .i64 0, .int .i64 0, .bool false, .slice none 0 0] 26)
                    simpa using this
                  obtain ⟨x0, x1, x2, x3, x4, x5, x6, x7, x8⟩ := bx_cells ((hb2.block _ (heap_lt q1)).trans q1)
                  obtain ⟨y0, y1, y2, y3, y4, y5, y6, y7, y8⟩ := bx_cells (c := [119]) ((hb2.block _ (heap_lt q2)).trans q2)
                  have hzz := hbz.size
                  have hlz := heap_lt q2
                  have hlt2 : w1.heap.size < w1.heap.size + 1 + 1 := by omega
                  have hne2 : w1.heap.size ≠ w1.heap.size + 1 + 1 := by omega
                  have hbw2 : Below w.heap.size w w2 := bel2 (bel2 hbw1 hbz) hb2
                  have HV2 := Lib.hid (((HV1.out.mono (S' := fun b => b < w1.heap.size) fun _ _ h => h).later hbz).later hb2)
                  have HZ := Lib.hid hwz
                  have hsz := (congrArg (fun w : World => w.heap.size) hwz)
                  simp only [World.size_alloc] at hsz
                  rw [← hwz] at HSL
                  clear q1 q2 hwz hb2 hbz hc1 hc2 hc3 hsl HV1 HZ hna
                  rw [show namedB 119 = true from rfl]
                  go_wp2_with (go_at_call 15; refine (Same_eq _ HSX.out (HV2.out.keep (set8_kept w2 (w1.heap.size + 1 + 1) (fun k hk => by have : k < w1.heap.size := hk; omega))) (set_v (HSL.out.keep (set8_kept w2 (w1.heap.size + 1 + 1) (fun k hk => by have : wz.heap.size ≤ k := hk; omega))))).mono ?_)
                  rintro e w6 ⟨rfl, hb6⟩
                  go_wp2_with (go_at_call 12; refine (awake_any _).mono ?_; rintro e w9 ⟨rfl, hb9⟩)
                  go_ret
                  refine ⟨rfl, bel2 (bel2 ?_ hb6) hb9⟩
                  exact set8_below hbw2 (by omega)
set_option maxHeartbeats 4000000 in
                  theorem esc115 (w : World) : Calls Try.prog 6 #[.int .u8 (115 : Nat)] w fun e w' => EscPost w e w' := by
                    have HX := Lib.hid (fun w => Read_ok w (by simp) read_esc_115)
                    have hc1 := conv_byte w 115 115 rfl
                    have HSX := Lib.hid (readM_small read_esc_115).1
                    have hal : Below w.heap.size w (w.alloc (.cells #[.int .u8 115] 5)) := (Below.refl _ _).alloc (Nat.le_refl _) _
                    go_enter Try.func6, Try.ntmps6
                    go_wp2_with (go_at_call 13; refine (HX.out _).mono ?_)
                    rintro e w1 ⟨hb1, cc1, rfl, hv1⟩
                    obtain ⟨k1, c1, n1, r1, l1, h1, z1, s1, a1, d1, b1, g1, hx1, rfl⟩ := hv1.box
                    have HV1 := Lib.hid hv1
                    have HX1 := Lib.hid hx1
                    clear hv1 hx1
                    unfold rxc at HV1 ⊢
                    have hz1 := hb1.size
                    simp only [World.size_alloc] at hz1
                    have hbw1 := bel2 hal hb1
                    have hc2 := conv_byte (w1.alloc (.cells #[.int .i64 k1, .string ⟨(c1).toArray⟩, .bool n1, .slice a1 r1.length d1, .int .i64 l1, .int .i64 h1, .bool z1, .slice b1 s1.length g1] 26)) 115 115 rfl
                    rw [World.size_alloc] at hc2
                    have hc3 := conv_byte (((w1.alloc (.cells #[.int .i64 k1, .string ⟨(c1).toArray⟩, .bool n1, .slice a1 r1.length d1, .int .i64 l1, .int .i64 h1, .bool z1, .slice b1 s1.length g1] 26)).alloc (.cells #[.int .u8 115] 5)).alloc (.cells #[.int .i64 2, .string ⟨#[115]⟩, .bool false, .slice none 0 0, .int .i64 0, .int .i64 0, .bool false, .slice none 0 0] 26)) 115 (bits BinOp.or IntKind.u8 115 32) (by decide)
                    simp only [World.size_alloc] at hc3
                    clear hb1 hal HX1
                    go_wp2_with (go_at_call 18; refine (Named_any 115 _).mono ?_)
                    rintro e w2 ⟨na, nk, rfl, hsl, hb2, hna⟩
                    have HSL := Lib.hid hsl
                    obtain ⟨wz, hwz⟩ : ∃ wz, wz = ((((w1.alloc (.cells #[.int .i64 k1, .string ⟨(c1).toArray⟩, .bool n1, .slice a1 r1.length d1, .int .i64 l1, .int .i64 h1, .bool z1, .slice b1 s1.length g1] 26)).alloc (.cells #[.int .u8 115] 5)).alloc (.cells #[.int .i64 2, .string ⟨#[115]⟩, .bool false, .slice none 0 0, .int .i64 0, .int .i64 0, .bool false, .slice none 0 0] 26)).alloc (.cells #[.int .u8 (bits BinOp.or IntKind.u8 115 32)] 5)) := ⟨_, rfl⟩
                    rw [← hwz] at hb2
                    have hz2 := hb2.size
                    have hbz : Below w1.heap.size w1 wz := by
                      rw [hwz]; (repeat (first | with_reducible exact Below.refl _ _ | with_reducible assumption | (refine Below.setCell ?_ (by simp) _) | (refine Below.alloc ?_ (by first | omega | (simp; done) | (simp; omega)) _) | (refine Below.drew ?_)))
                    have q1 : wz.heap[w1.heap.size]? = some (.cells #[.int .i64 k1, .string ⟨(c1).toArray⟩, .bool n1, .slice a1 r1.length d1, .int .i64 l1, .int .i64 h1, .bool z1, .slice b1 s1.length g1] 26 (0, 0)) := by
                      rw [hwz, Below.heap_alloc _ _ _ (by simp; omega), Below.heap_alloc _ _ _ (by simp; omega), Below.heap_alloc _ _ _ (by simp)]; exact heap_alloc_new w1 _
                    have q2 : wz.heap[w1.heap.size + 1 + 1]? = some (.cells #[.int .i64 2, .string ⟨#[115]⟩, .bool false, .slice none 0 0, .int .i64 0, .int .i64 0, .bool false, .slice none 0 0] 26 (0, 0)) := by
                      rw [hwz, Below.heap_alloc _ _ _ (by simp)]
                      have := heap_alloc_new ((w1.alloc (.cells #[.int .i64 k1, .string ⟨(c1).toArray⟩, .bool n1, .slice a1 r1.length d1, .int .i64 l1, .int .i64 h1, .bool z1, .slice b1 s1.length g1] 26)).alloc (.cells #[.int .u8 115] 5)) (.cells #[.int .i64 2, .string ⟨#[115]⟩, .bool false, .slice none 0 0, .int .i64 0, .int .i64 0, .bool false, .slice none 0 0] 26)
                      simpa using this
                    obtain ⟨x0, x1, x2, x3, x4, x5, x6, x7, x8⟩ := bx_cells ((hb2.block _ (heap_lt q1)).trans q1)
                    obtain ⟨y0, y1, y2, y3, y4, y5, y6, y7, y8⟩ := bx_cells (c := [115]) ((hb2.block _ (heap_lt q2)).trans q2)
                    have hzz := hbz.size
                    have hlz := heap_lt q2
                    have hlt2 : w1.heap.size < w1.heap.size + 1 + 1 := by omega
                    have hne2 : w1.heap.size ≠ w1.heap.size + 1 + 1 := by omega
                    have hbw2 : Below w.heap.size w w2 := bel2 (bel2 hbw1 hbz) hb2
                    have HV2 := Lib.hid (((HV1.out.mono (S' := fun b => b < w1.heap.size) fun _ _ h => h).later hbz).later hb2)
                    have HZ := Lib.hid hwz
                    have hsz := (congrArg (fun w : World => w.heap.size) hwz)
                    simp only [World.size_alloc] at hsz
                    rw [← hwz] at HSL
                    clear q1 q2 hwz hb2 hbz hc1 hc2 hc3 hsl HV1 HZ hna
                    rw [show namedB 115 = true from rfl]
                    go_wp2_with (go_at_call 15; refine (Same_eq _ HSX.out (HV2.out.keep (set8_kept w2 (w1.heap.size + 1 + 1) (fun k hk => by have : k < w1.heap.size := hk; omega))) (set_v (HSL.out.keep (set8_kept w2 (w1.heap.size + 1 + 1) (fun k hk => by have : wz.heap.size ≤ k := hk; omega))))).mono ?_)
                    rintro e w6 ⟨rfl, hb6⟩
                    go_wp2_with (go_at_call 12; refine (awake_any _).mono ?_; rintro e w9 ⟨rfl, hb9⟩)
                    go_ret
                    refine ⟨rfl, bel2 (bel2 ?_ hb6) hb9⟩
                    exact set8_below hbw2 (by omega)
set_option maxHeartbeats 4000000 in
                    theorem esc68 (w : World) : Calls Try.prog 6 #[.int .u8 (68 : Nat)] w fun e w' => EscPost w e w' := by
                      have HX := Lib.hid (fun w => Read_ok w (by simp) read_esc_68)
                      have hc1 := conv_byte w 68 68 rfl
                      have HSX := Lib.hid (readM_small read_esc_68).1
                      have hal : Below w.heap.size w (w.alloc (.cells #[.int .u8 68] 5)) := (Below.refl _ _).alloc (Nat.le_refl _) _
                      go_enter Try.func6, Try.ntmps6
                      go_wp2_with (go_at_call 13; refine (HX.out _).mono ?_)
                      rintro e w1 ⟨hb1, cc1, rfl, hv1⟩
                      obtain ⟨k1, c1, n1, r1, l1, h1, z1, s1, a1, d1, b1, g1, hx1, rfl⟩ := hv1.box
                      have HV1 := Lib.hid hv1
                      have HX1 := Lib.hid hx1
                      clear hv1 hx1
                      unfold rxc at HV1 ⊢
                      have hz1 := hb1.size
                      simp only [World.size_alloc] at hz1
                      have hbw1 := bel2 hal hb1
                      have hc2 := conv_byte (w1.alloc (.cells #[.int .i64 k1, .string ⟨(c1).toArray⟩, .bool n1, .slice a1 r1.length d1, .int .i64 l1, .int .i64 h1, .bool z1, .slice b1 s1.length g1] 26)) 68 68 rfl
                      rw [World.size_alloc] at hc2
                      have hc3 := conv_byte (((w1.alloc (.cells #[.int .i64 k1, .string ⟨(c1).toArray⟩, .bool n1, .slice a1 r1.length d1, .int .i64 l1, .int .i64 h1, .bool z1, .slice b1 s1.length g1] 26)).alloc (.cells #[.int .u8 68] 5)).alloc (.cells #[.int .i64 2, .string ⟨#[68]⟩, .bool false, .slice none 0 0, .int .i64 0, .int .i64 0, .bool false, .slice none 0 0] 26)) 100 (bits BinOp.or IntKind.u8 68 32) (by decide)
                      simp only [World.size_alloc] at hc3
                      clear hb1 hal HX1
                      go_wp2_with (go_at_call 18; refine (Named_any 100 _).mono ?_)
                      rintro e w2 ⟨na, nk, rfl, hsl, hb2, hna⟩
                      have HSL := Lib.hid hsl
                      obtain ⟨wz, hwz⟩ : ∃ wz, wz = ((((w1.alloc (.cells #[.int .i64 k1, .string ⟨(c1).toArray⟩, .bool n1, .slice a1 r1.length d1, .int .i64 l1, .int .i64 h1, .bool z1, .slice b1 s1.length g1] 26)).alloc (.cells #[.int .u8 68] 5)).alloc (.cells #[.int .i64 2, .string ⟨#[68]⟩, .bool false, .slice none 0 0, .int .i64 0, .int .i64 0, .bool false, .slice none 0 0] 26)).alloc (.cells #[.int .u8 (bits BinOp.or IntKind.u8 68 32)] 5)) := ⟨_, rfl⟩
                      rw [← hwz] at hb2
                      have hz2 := hb2.size
                      have hbz : Below w1.heap.size w1 wz := by
                        rw [hwz]; (repeat (first | with_reducible exact Below.refl _ _ | with_reducible assumption | (refine Below.setCell ?_ (by simp) _) | (refine Below.alloc ?_ (by first | omega | (simp; done) | (simp; omega)) _) | (refine Below.drew ?_)))
                      have q1 : wz.heap[w1.heap.size]? = some (.cells #[.int .i64 k1, .string ⟨(c1).toArray⟩, .bool n1, .slice a1 r1.length d1, .int .i64 l1, .int .i64 h1, .bool z1, .slice b1 s1.length g1] 26 (0, 0)) := by
                        rw [hwz, Below.heap_alloc _ _ _ (by simp; omega), Below.heap_alloc _ _ _ (by simp; omega), Below.heap_alloc _ _ _ (by simp)]; exact heap_alloc_new w1 _
                      have q2 : wz.heap[w1.heap.size + 1 + 1]? = some (.cells #[.int .i64 2, .string ⟨#[68]⟩, .bool false, .slice none 0 0, .int .i64 0, .int .i64 0, .bool false, .slice none 0 0] 26 (0, 0)) := by
                        rw [hwz, Below.heap_alloc _ _ _ (by simp)]
                        have := heap_alloc_new ((w1.alloc (.cells #[.int .i64 k1, .string ⟨(c1).toArray⟩, .bool n1, .slice a1 r1.length d1, .int .i64 l1, .int .i64 h1, .bool z1, .slice b1 s1.length g1] 26)).alloc (.cells #[.int .u8 68] 5)) (.cells #[.int .i64 2, .string ⟨#[68]⟩, .bool false, .slice none 0 0, .int .i64 0, .int .i64 0, .bool false, .slice none 0 0] 26)
                        simpa using this
                      obtain ⟨x0, x1, x2, x3, x4, x5, x6, x7, x8⟩ := bx_cells ((hb2.block _ (heap_lt q1)).trans q1)
                      obtain ⟨y0, y1, y2, y3, y4, y5, y6, y7, y8⟩ := bx_cells (c := [68]) ((hb2.block _ (heap_lt q2)).trans q2)
                      have hzz := hbz.size
                      have hlz := heap_lt q2
                      have hlt2 : w1.heap.size < w1.heap.size + 1 + 1 := by omega
                      have hne2 : w1.heap.size ≠ w1.heap.size + 1 + 1 := by omega
                      have hbw2 : Below w.heap.size w w2 := bel2 (bel2 hbw1 hbz) hb2
                      have HV2 := Lib.hid (((HV1.out.mono (S' := fun b => b < w1.heap.size) fun _ _ h => h).later hbz).later hb2)
                      have HZ := Lib.hid hwz
                      have hsz := (congrArg (fun w : World => w.heap.size) hwz)
                      simp only [World.size_alloc] at hsz
                      rw [← hwz] at HSL
                      clear q1 q2 hwz hb2 hbz hc1 hc2 hc3 hsl HV1 HZ hna
                      rw [show namedB 100 = true from rfl]
                      go_wp2_with (go_at_call 15; refine (Same_eq _ HSX.out (HV2.out.keep (set8_kept w2 (w1.heap.size + 1 + 1) (fun k hk => by have : k < w1.heap.size := hk; omega))) (set_v (HSL.out.keep (set8_kept w2 (w1.heap.size + 1 + 1) (fun k hk => by have : wz.heap.size ≤ k := hk; omega))))).mono ?_)
                      rintro e w6 ⟨rfl, hb6⟩
                      go_wp2_with (go_at_call 12; refine (awake_any _).mono ?_; rintro e w9 ⟨rfl, hb9⟩)
                      go_ret
                      refine ⟨rfl, bel2 (bel2 ?_ hb6) hb9⟩
                      exact set8_below hbw2 (by omega)
set_option maxHeartbeats 4000000 in
                      theorem esc87 (w : World) : Calls Try.prog 6 #[.int .u8 (87 : Nat)] w fun e w' => EscPost w e w' := by
                        have HX := Lib.hid (fun w => Read_ok w (by simp) read_esc_87)
                        have hc1 := conv_byte w 87 87 rfl
                        have HSX := Lib.hid (readM_small read_esc_87).1
                        have hal : Below w.heap.size w (w.alloc (.cells #[.int .u8 87] 5)) := (Below.refl _ _).alloc (Nat.le_refl _) _
                        go_enter Try.func6, Try.ntmps6
                        go_wp2_with (go_at_call 13; refine (HX.out _).mono ?_)
                        rintro e w1 ⟨hb1, cc1, rfl, hv1⟩
                        obtain ⟨k1, c1, n1, r1, l1, h1, z1, s1, a1, d1, b1, g1, hx1, rfl⟩ := hv1.box
                        have HV1 := Lib.hid hv1
                        have HX1 := Lib.hid hx1
                        clear hv1 hx1
                        unfold rxc at HV1 ⊢
                        have hz1 := hb1.size
                        simp only [World.size_alloc] at hz1
                        have hbw1 := bel2 hal hb1
                        have hc2 := conv_byte (w1.alloc (.cells #[.int .i64 k1, .string ⟨(c1).toArray⟩, .bool n1, .slice a1 r1.length d1, .int .i64 l1, .int .i64 h1, .bool z1, .slice b1 s1.length g1] 26)) 87 87 rfl
                        rw [World.size_alloc] at hc2
                        have hc3 := conv_byte (((w1.alloc (.cells #[.int .i64 k1, .string ⟨(c1).toArray⟩, .bool n1, .slice a1 r1.length d1, .int .i64 l1, .int .i64 h1, .bool z1, .slice b1 s1.length g1] 26)).alloc (.cells #[.int .u8 87] 5)).alloc (.cells #[.int .i64 2, .string ⟨#[87]⟩, .bool false, .slice none 0 0, .int .i64 0, .int .i64 0, .bool false, .slice none 0 0] 26)) 119 (bits BinOp.or IntKind.u8 87 32) (by decide)
                        simp only [World.size_alloc] at hc3
                        clear hb1 hal HX1
                        go_wp2_with (go_at_call 18; refine (Named_any 119 _).mono ?_)
                        rintro e w2 ⟨na, nk, rfl, hsl, hb2, hna⟩
                        have HSL := Lib.hid hsl
                        obtain ⟨wz, hwz⟩ : ∃ wz, wz = ((((w1.alloc (.cells #[.int .i64 k1, .string ⟨(c1).toArray⟩, .bool n1, .slice a1 r1.length d1, .int .i64 l1, .int .i64 h1, .bool z1, .slice b1 s1.length g1] 26)).alloc (.cells #[.int .u8 87] 5)).alloc (.cells #[.int .i64 2, .string ⟨#[87]⟩, .bool false, .slice none 0 0, .int .i64 0, .int .i64 0, .bool false, .slice none 0 0] 26)).alloc (.cells #[.int .u8 (bits BinOp.or IntKind.u8 87 32)] 5)) := ⟨_, rfl⟩
                        rw [← hwz] at hb2
                        have hz2 := hb2.size
                        have hbz : Below w1.heap.size w1 wz := by
                          rw [hwz]; (repeat (first | with_reducible exact Below.refl _ _ | with_reducible assumption | (refine Below.setCell ?_ (by simp) _) | (refine Below.alloc ?_ (by first | omega | (simp; done) | (simp; omega)) _) | (refine Below.drew ?_)))
                        have q1 : wz.heap[w1.heap.size]? = some (.cells #[.int .i64 k1, .string ⟨(c1).toArray⟩, .bool n1, .slice a1 r1.length d1, .int .i64 l1, .int .i64 h1, .bool z1, .slice b1 s1.length g1] 26 (0, 0)) := by
                          rw [hwz, Below.heap_alloc _ _ _ (by simp; omega), Below.heap_alloc _ _ _ (by simp; omega), Below.heap_alloc _ _ _ (by simp)]; exact heap_alloc_new w1 _
                        have q2 : wz.heap[w1.heap.size + 1 + 1]? = some (.cells #[.int .i64 2, .string ⟨#[87]⟩, .bool false, .slice none 0 0, .int .i64 0, .int .i64 0, .bool false, .slice none 0 0] 26 (0, 0)) := by
                          rw [hwz, Below.heap_alloc _ _ _ (by simp)]
                          have := heap_alloc_new ((w1.alloc (.cells #[.int .i64 k1, .string ⟨(c1).toArray⟩, .bool n1, .slice a1 r1.length d1, .int .i64 l1, .int .i64 h1, .bool z1, .slice b1 s1.length g1] 26)).alloc (.cells #[.int .u8 87] 5)) (.cells #[.int .i64 2, .string ⟨#[87]⟩, .bool false, .slice none 0 0, .int .i64 0, .int .i64 0, .bool false, .slice none 0 0] 26)
                          simpa using this
                        obtain ⟨x0, x1, x2, x3, x4, x5, x6, x7, x8⟩ := bx_cells ((hb2.block _ (heap_lt q1)).trans q1)
                        obtain ⟨y0, y1, y2, y3, y4, y5, y6, y7, y8⟩ := bx_cells (c := [87]) ((hb2.block _ (heap_lt q2)).trans q2)
                        have hzz := hbz.size
                        have hlz := heap_lt q2
                        have hlt2 : w1.heap.size < w1.heap.size + 1 + 1 := by omega
                        have hne2 : w1.heap.size ≠ w1.heap.size + 1 + 1 := by omega
                        have hbw2 : Below w.heap.size w w2 := bel2 (bel2 hbw1 hbz) hb2
                        have HV2 := Lib.hid (((HV1.out.mono (S' := fun b => b < w1.heap.size) fun _ _ h => h).later hbz).later hb2)
                        have HZ := Lib.hid hwz
                        have hsz := (congrArg (fun w : World => w.heap.size) hwz)
                        simp only [World.size_alloc] at hsz
                        rw [← hwz] at HSL
                        clear q1 q2 hwz hb2 hbz hc1 hc2 hc3 hsl HV1 HZ hna
                        rw [show namedB 119 = true from rfl]
                        go_wp2_with (go_at_call 15; refine (Same_eq _ HSX.out (HV2.out.keep (set8_kept w2 (w1.heap.size + 1 + 1) (fun k hk => by have : k < w1.heap.size := hk; omega))) (set_v (HSL.out.keep (set8_kept w2 (w1.heap.size + 1 + 1) (fun k hk => by have : wz.heap.size ≤ k := hk; omega))))).mono ?_)
                        rintro e w6 ⟨rfl, hb6⟩
                        go_wp2_with (go_at_call 12; refine (awake_any _).mono ?_; rintro e w9 ⟨rfl, hb9⟩)
                        go_ret
                        refine ⟨rfl, bel2 (bel2 ?_ hb6) hb9⟩
                        exact set8_below hbw2 (by omega)
set_option maxHeartbeats 4000000 in
                        theorem esc83 (w : World) : Calls Try.prog 6 #[.int .u8 (83 : Nat)] w fun e w' => EscPost w e w' := by
                          have HX := Lib.hid (fun w => Read_ok w (by simp) read_esc_83)
                          have hc1 := conv_byte w 83 83 rfl
                          have HSX := Lib.hid (readM_small read_esc_83).1
                          have hal : Below w.heap.size w (w.alloc (.cells #[.int .u8 83] 5)) := (Below.refl _ _).alloc (Nat.le_refl _) _
                          go_enter Try.func6, Try.ntmps6
                          go_wp2_with (go_at_call 13; refine (HX.out _).mono ?_)
                          rintro e w1 ⟨hb1, cc1, rfl, hv1⟩
                          obtain ⟨k1, c1, n1, r1, l1, h1, z1, s1, a1, d1, b1, g1, hx1, rfl⟩ := hv1.box
                          have HV1 := Lib.hid hv1
                          have HX1 := Lib.hid hx1
                          clear hv1 hx1
                          unfold rxc at HV1 ⊢
                          have hz1 := hb1.size
                          simp only [World.size_alloc] at hz1
                          have hbw1 := bel2 hal hb1
                          have hc2 := conv_byte (w1.alloc (.cells #[.int .i64 k1, .string ⟨(c1).toArray⟩, .bool n1, .slice a1 r1.length d1, .int .i64 l1, .int .i64 h1, .bool z1, .slice b1 s1.length g1] 26)) 83 83 rfl
                          rw [World.size_alloc] at hc2
                          have hc3 := conv_byte (((w1.alloc (.cells #[.int .i64 k1, .string ⟨(c1).toArray⟩, .bool n1, .slice a1 r1.length d1, .int .i64 l1, .int .i64 h1, .bool z1, .slice b1 s1.length g1] 26)).alloc (.cells #[.int .u8 83] 5)).alloc (.cells #[.int .i64 2, .string ⟨#[83]⟩, .bool false, .slice none 0 0, .int .i64 0, .int .i64 0, .bool false, .slice none 0 0] 26)) 115 (bits BinOp.or IntKind.u8 83 32) (by decide)
                          simp only [World.size_alloc] at hc3
                          clear hb1 hal HX1
                          go_wp2_with (go_at_call 18; refine (Named_any 115 _).mono ?_)
                          rintro e w2 ⟨na, nk, rfl, hsl, hb2, hna⟩
                          have HSL := Lib.hid hsl
                          obtain ⟨wz, hwz⟩ : ∃ wz, wz = ((((w1.alloc (.cells #[.int .i64 k1, .string ⟨(c1).toArray⟩, .bool n1, .slice a1 r1.length d1, .int .i64 l1, .int .i64 h1, .bool z1, .slice b1 s1.length g1] 26)).alloc (.cells #[.int .u8 83] 5)).alloc (.cells #[.int .i64 2, .string ⟨#[83]⟩, .bool false, .slice none 0 0, .int .i64 0, .int .i64 0, .bool false, .slice none 0 0] 26)).alloc (.cells #[.int .u8 (bits BinOp.or IntKind.u8 83 32)] 5)) := ⟨_, rfl⟩
                          rw [← hwz] at hb2
                          have hz2 := hb2.size
                          have hbz : Below w1.heap.size w1 wz := by
                            rw [hwz]; (repeat (first | with_reducible exact Below.refl _ _ | with_reducible assumption | (refine Below.setCell ?_ (by simp) _) | (refine Below.alloc ?_ (by first | omega | (simp; done) | (simp; omega)) _) | (refine Below.drew ?_)))
                          have q1 : wz.heap[w1.heap.size]? = some (.cells #[.int .i64 k1, .string ⟨(c1).toArray⟩, .bool n1, .slice a1 r1.length d1, .int .i64 l1, .int .i64 h1, .bool z1, .slice b1 s1.length g1] 26 (0, 0)) := by
                            rw [hwz, Below.heap_alloc _ _ _ (by simp; omega), Below.heap_alloc _ _ _ (by simp; omega), Below.heap_alloc _ _ _ (by simp)]; exact heap_alloc_new w1 _
                          have q2 : wz.heap[w1.heap.size + 1 + 1]? = some (.cells #[.int .i64 2, .string ⟨#[83]⟩, .bool false, .slice none 0 0, .int .i64 0, .int .i64 0, .bool false, .slice none 0 0] 26 (0, 0)) := by
                            rw [hwz, Below.heap_alloc _ _ _ (by simp)]
                            have := heap_alloc_new ((w1.alloc (.cells #[.int .i64 k1, .string ⟨(c1).toArray⟩, .bool n1, .slice a1 r1.length d1, .int .i64 l1, .int .i64 h1, .bool z1, .slice b1 s1.length g1] 26)).alloc (.cells #[.int .u8 83] 5)) (.cells #[.int .i64 2, .string ⟨#[83]⟩, .bool false, .slice none 0 0, .int .i64 0, .int .i64 0, .bool false, .slice none 0 0] 26)
                            simpa using this
                          obtain ⟨x0, x1, x2, x3, x4, x5, x6, x7, x8⟩ := bx_cells ((hb2.block _ (heap_lt q1)).trans q1)
                          obtain ⟨y0, y1, y2, y3, y4, y5, y6, y7, y8⟩ := bx_cells (c := [83]) ((hb2.block _ (heap_lt q2)).trans q2)
                          have hzz := hbz.size
                          have hlz := heap_lt q2
                          have hlt2 : w1.heap.size < w1.heap.size + 1 + 1 := by omega
                          have hne2 : w1.heap.size ≠ w1.heap.size + 1 + 1 := by omega
                          have hbw2 : Below w.heap.size w w2 := bel2 (bel2 hbw1 hbz) hb2
                          have HV2 := Lib.hid (((HV1.out.mono (S' := fun b => b < w1.heap.size) fun _ _ h => h).later hbz).later hb2)
                          have HZ := Lib.hid hwz
                          have hsz := (congrArg (fun w : World => w.heap.size) hwz)
                          simp only [World.size_alloc] at hsz
                          rw [← hwz] at HSL
                          clear q1 q2 hwz hb2 hbz hc1 hc2 hc3 hsl HV1 HZ hna
                          rw [show namedB 115 = true from rfl]
                          go_wp2_with (go_at_call 15; refine (Same_eq _ HSX.out (HV2.out.keep (set8_kept w2 (w1.heap.size + 1 + 1) (fun k hk => by have : k < w1.heap.size := hk; omega))) (set_v (HSL.out.keep (set8_kept w2 (w1.heap.size + 1 + 1) (fun k hk => by have : wz.heap.size ≤ k := hk; omega))))).mono ?_)
                          rintro e w6 ⟨rfl, hb6⟩
                          go_wp2_with (go_at_call 12; refine (awake_any _).mono ?_; rintro e w9 ⟨rfl, hb9⟩)
                          go_ret
                          refine ⟨rfl, bel2 (bel2 ?_ hb6) hb9⟩
                          exact set8_below hbw2 (by omega)
theorem bits_ok : ∀ n : Nat, n < 256 → bits BinOp.or IntKind.u8 n 32 = ((UInt8.ofNat (bits BinOp.or IntKind.u8 n 32).toNat).toNat : Int) := by decide +kernel
def escFF (c : UInt8) (k : Nat) : Prop := ((c.toNat : Int) == (k : Int)) = false
theorem esc_ff {c : UInt8} (h : escSp c = false) : escFF c 98 ∧ escFF c 66 ∧ escFF c 100 ∧ escFF c 119 ∧ escFF c 115 ∧ escFF c 68 ∧ escFF c 87 ∧ escFF c 83 ∧ escFF c 110 ∧ escFF c 114 ∧ escFF c 116 ∧ escFF c 102 ∧ escFF c 118 := by
  have key : ∀ d : UInt8, (c == d) = false → escFF c d.toNat := by
    intro d hd
    unfold escFF
    rw [beq_eq_false_iff_ne] at hd ⊢
    intro e
    exact hd (UInt8.toNat_inj.1 (by omega))
  unfold escSp at h
  simp only [Bool.or_eq_false_iff] at h
  obtain ⟨⟨⟨⟨⟨⟨⟨⟨⟨⟨⟨⟨h1, h2⟩, h3⟩, h4⟩, h5⟩, h6⟩, h7⟩, h8⟩, h9⟩, h10⟩, h11⟩, h12⟩, h13⟩ := h
  exact ⟨key _ h1, key _ h2, key _ h3, key _ h4, key _ h5, key _ h6, key _ h7, key _ h8, key _ h9, key _ h10, key _ h11, key _ h12, key _ h13⟩
set_option maxHeartbeats 4000000 in
theorem esc_gen {c : UInt8} (hc : c.toNat < 128) (hs : escSp c = false) (w : World) : Calls Try.prog 6 #[.int .u8 c.toNat] w fun e w' => EscPost w e w' := by
  have hr := read_esc hc hs
  have hld := ldB_eq c
  cases hl : letB c with
  | true =>
    rw [hld, hl, Bool.true_or, if_pos rfl] at hr
    have HX := Lib.hid (fun w => Read_no w (by simp) hr)
    have HL : Hid (∀ w, Calls Try.prog 19 #[.int .u8 c.toNat] w fun e w' => e = .returned (.bool true) ∧ w = w') := Lib.hid (fun w => hl ▸ Letter_any c w)
    clear hr hld hl
    have hc1 := conv_byte w c c.toNat rfl
    have hal : Below w.heap.size w (w.alloc (.cells #[.int .u8 c.toNat] 5)) := (Below.refl _ _).alloc (Nat.le_refl _) _
    obtain ⟨q1, q2, q3, q4, q5, q6, q7, q8, q9, q10, q11, q12, q13⟩ := esc_ff hs
    have d128 : decide ((128 : Int) ≤ (c.toNat : Int)) = false := decide_eq_false (by omega)
    unfold escFF at q1 q2 q3 q4 q5 q6 q7 q8 q9 q10 q11 q12 q13
    go_enter Try.func6, Try.ntmps6
    go_wp2_with (go_at_call 13; refine (HX.out _).mono ?_)
    rintro e w1 ⟨rfl, hb1⟩
    unfold rxv0
    have hz1 := hb1.size
    simp only [World.size_alloc] at hz1
    have hbw1 := bel2 hal hb1
    have hc2 := conv_byte (w1.alloc (.cells #[.int .i64 0, .string ⟨#[]⟩, .bool false, .slice none 0 0, .int .i64 0, .int .i64 0, .bool false, .slice none 0 0] 26)) c c.toNat rfl
    rw [World.size_alloc] at hc2
    have hc3 := conv_byte (((w1.alloc (.cells #[.int .i64 0, .string ⟨#[]⟩, .bool false, .slice none 0 0, .int .i64 0, .int .i64 0, .bool false, .slice none 0 0] 26)).alloc (.cells #[.int .u8 c.toNat] 5)).alloc (.cells #[.int .i64 2, .string ⟨#[c]⟩, .bool false, .slice none 0 0, .int .i64 0, .int .i64 0, .bool false, .slice none 0 0] 26)) (UInt8.ofNat (bits BinOp.or IntKind.u8 c.toNat 32).toNat) (bits BinOp.or IntKind.u8 c.toNat 32) (bits_ok _ (by omega))
    simp only [World.size_alloc] at hc3
    clear hb1 hal
    go_wp2_with (go_at_call 19; refine (HL.out _).mono ?_; rintro e wl ⟨rfl, rfl⟩)
    go_wp2_with (go_at_call 12; refine (awake_any _).mono ?_; rintro e w9 ⟨rfl, hb9⟩)
    go_ret
    refine ⟨rfl, bel2 ?_ hb9⟩
    (repeat (first | with_reducible exact Below.refl _ _ | with_reducible assumption | (refine Below.setCell ?_ (by simp) _) | (refine Below.alloc ?_ (by first | omega | (simp; done) | (simp; omega)) _) | (refine Below.drew ?_)))
  | false =>
    cases hd : dgtB c with
    | true =>
      rw [hld, hl, hd, Bool.false_or, if_pos rfl] at hr
      have HX := Lib.hid (fun w => Read_no w (by simp) hr)
      have HL : Hid (∀ w, Calls Try.prog 19 #[.int .u8 c.toNat] w fun e w' => e = .returned (.bool false) ∧ w = w') := Lib.hid (fun w => hl ▸ Letter_any c w)
      have HD : Hid (∀ w, Calls Try.prog 20 #[.int .u8 c.toNat] w fun e w' => e = .returned (.bool true) ∧ w = w') := Lib.hid (fun w => hd ▸ Digit_any c w)
      clear hr hld hl hd
      have hc1 := conv_byte w c c.toNat rfl
      have hal : Below w.heap.size w (w.alloc (.cells #[.int .u8 c.toNat] 5)) := (Below.refl _ _).alloc (Nat.le_refl _) _
      obtain ⟨q1, q2, q3, q4, q5, q6, q7, q8, q9, q10, q11, q12, q13⟩ := esc_ff hs
      have d128 : decide ((128 : Int) ≤ (c.toNat : Int)) = false := decide_eq_false (by omega)
      unfold escFF at q1 q2 q3 q4 q5 q6 q7 q8 q9 q10 q11 q12 q13
      go_enter Try.func6, Try.ntmps6
      go_wp2_with (go_at_call 13; refine (HX.out _).mono ?_)
      rintro e w1 ⟨rfl, hb1⟩
      unfold rxv0
      have hz1 := hb1.size
      simp only [World.size_alloc] at hz1
      have hbw1 := bel2 hal hb1
      have hc2 := conv_byte (w1.alloc (.cells #[.int .i64 0, .string ⟨#[]⟩, .bool false, .slice none 0 0, .int .i64 0, .int .i64 0, .bool false, .slice none 0 0] 26)) c c.toNat rfl
      rw [World.size_alloc] at hc2
      have hc3 := conv_byte (((w1.alloc (.cells #[.int .i64 0, .string ⟨#[]⟩, .bool false, .slice none 0 0, .int .i64 0, .int .i64 0, .bool false, .slice none 0 0] 26)).alloc (.cells #[.int .u8 c.toNat] 5)).alloc (.cells #[.int .i64 2, .string ⟨#[c]⟩, .bool false, .slice none 0 0, .int .i64 0, .int .i64 0, .bool false, .slice none 0 0] 26)) (UInt8.ofNat (bits BinOp.or IntKind.u8 c.toNat 32).toNat) (bits BinOp.or IntKind.u8 c.toNat 32) (bits_ok _ (by omega))
      simp only [World.size_alloc] at hc3
      clear hb1 hal
      go_wp2_with (go_at_call 19; refine (HL.out _).mono ?_; rintro e wl ⟨rfl, rfl⟩)
      go_wp2_with (go_at_call 20; refine (HD.out _).mono ?_; rintro e wl ⟨rfl, rfl⟩)
      go_wp2_with (go_at_call 12; refine (awake_any _).mono ?_; rintro e w9 ⟨rfl, hb9⟩)
      go_ret
      refine ⟨rfl, bel2 ?_ hb9⟩
      (repeat (first | with_reducible exact Below.refl _ _ | with_reducible assumption | (refine Below.setCell ?_ (by simp) _) | (refine Below.alloc ?_ (by first | omega | (simp; done) | (simp; omega)) _) | (refine Below.drew ?_)))
    | false =>
      rw [hld, hl, hd, Bool.false_or, if_neg (by decide)] at hr
      have HX := Lib.hid (fun w => Read_ok w (by simp) hr)
      have HSX := Lib.hid (readM_small hr).1
      have HL : Hid (∀ w, Calls Try.prog 19 #[.int .u8 c.toNat] w fun e w' => e = .returned (.bool false) ∧ w = w') := Lib.hid (fun w => hl ▸ Letter_any c w)
      have HD : Hid (∀ w, Calls Try.prog 20 #[.int .u8 c.toNat] w fun e w' => e = .returned (.bool false) ∧ w = w') := Lib.hid (fun w => hd ▸ Digit_any c w)
      clear hr hld hl hd
      have hc1 := conv_byte w c c.toNat rfl
      have hal : Below w.heap.size w (w.alloc (.cells #[.int .u8 c.toNat] 5)) := (Below.refl _ _).alloc (Nat.le_refl _) _
      obtain ⟨q1, q2, q3, q4, q5, q6, q7, q8, q9, q10, q11, q12, q13⟩ := esc_ff hs
      have d128 : decide ((128 : Int) ≤ (c.toNat : Int)) = false := decide_eq_false (by omega)
      unfold escFF at q1 q2 q3 q4 q5 q6 q7 q8 q9 q10 q11 q12 q13
      go_enter Try.func6, Try.ntmps6
      go_wp2_with (go_at_call 13; refine (HX.out _).mono ?_)
      rintro e w1 ⟨hb1, cc1, rfl, hv1⟩
      obtain ⟨k1, c1, n1, r1, l1, h1, z1, s1, a1, d1, b1, g1, hx1, rfl⟩ := hv1.box
      have HV1 := Lib.hid hv1
      have HX1 := Lib.hid hx1
      clear hv1 hx1
      unfold rxc at HV1 ⊢
      have hz1 := hb1.size
      simp only [World.size_alloc] at hz1
      have hbw1 := bel2 hal hb1
      have hc2 := conv_byte (w1.alloc (.cells #[.int .i64 k1, .string ⟨(c1).toArray⟩, .bool n1, .slice a1 r1.length d1, .int .i64 l1, .int .i64 h1, .bool z1, .slice b1 s1.length g1] 26)) c c.toNat rfl
      rw [World.size_alloc] at hc2
      have hc3 := conv_byte (((w1.alloc (.cells #[.int .i64 k1, .string ⟨(c1).toArray⟩, .bool n1, .slice a1 r1.length d1, .int .i64 l1, .int .i64 h1, .bool z1, .slice b1 s1.length g1] 26)).alloc (.cells #[.int .u8 c.toNat] 5)).alloc (.cells #[.int .i64 2, .string ⟨#[c]⟩, .bool false, .slice none 0 0, .int .i64 0, .int .i64 0, .bool false, .slice none 0 0] 26)) (UInt8.ofNat (bits BinOp.or IntKind.u8 c.toNat 32).toNat) (bits BinOp.or IntKind.u8 c.toNat 32) (bits_ok _ (by omega))
      simp only [World.size_alloc] at hc3
      clear hb1 hal
      go_wp2_with (go_at_call 19; refine (HL.out _).mono ?_; rintro e wl ⟨rfl, rfl⟩)
      go_wp2_with (go_at_call 20; refine (HD.out _).mono ?_; rintro e wl ⟨rfl, rfl⟩)
      go_wp2_with (go_at_call 15; refine (Same_eq _ HSX.out (HV1.out.later (by (repeat (first | with_reducible exact Below.refl _ _ | with_reducible assumption | (refine Below.setCell ?_ (by simp) _) | (refine Below.alloc ?_ (by first | (simp; done) | (simp; omega)) _) | (refine Below.drew ?_))))) ((leaf_v (k := 2) (c := [c])))).mono ?_)
      rintro e w6 ⟨rfl, hb6⟩
      go_wp2_with (go_at_call 12; refine (awake_any _).mono ?_; rintro e w9 ⟨rfl, hb9⟩)
      go_ret
      refine ⟨rfl, bel2 (bel2 ?_ hb6) hb9⟩
      (repeat (first | with_reducible exact Below.refl _ _ | with_reducible assumption | (refine Below.setCell ?_ (by simp) _) | (refine Below.alloc ?_ (by first | omega | (simp; done) | (simp; omega)) _) | (refine Below.drew ?_)))
theorem ReadEscape_walk (c : UInt8) (w : World) : Calls Try.prog 6 #[.int .u8 c.toNat] w fun e w' => e = .returned (.bool true) ∧ Below w.heap.size w w' := by
  by_cases hc : c.toNat < 128
  · cases hs : escSp c with
    | false => exact esc_gen hc hs w
    | true =>
      unfold escSp at hs
      simp only [Bool.or_eq_true, beq_iff_eq] at hs
      rcases hs with (((((((((((rfl | rfl) | rfl) | rfl) | rfl) | rfl) | rfl) | rfl) | rfl) | rfl) | rfl) | rfl) | rfl
      · exact esc98 w
      · exact esc66 w
      · exact esc100 w
      · exact esc119 w
      · exact esc115 w
      · exact esc68 w
      · exact esc87 w
      · exact esc83 w
      · exact esc110 w
      · exact esc114 w
      · exact esc116 w
      · exact esc102 w
      · exact esc118 w
  · have d128 : decide ((128 : Int) ≤ (c.toNat : Int)) = true := decide_eq_true (by omega)
    go_enter Try.func6, Try.ntmps6
    go_wp2_with (go_at_call 12; refine (awake_any _).mono ?_; rintro e w4 ⟨rfl, hb4⟩)
    all_goals first
      | (go_ret; exact ⟨rfl, hb4⟩)
      | (exfalso; omega)
theorem ReadEscape_int (b : Int) (w : World) (h : 0 ≤ b ∧ b < 256) : Calls Try.prog 6 #[.int .u8 b] w fun e w' => e = .returned (.bool true) ∧ Below w.heap.size w w' := by
  have e : ((UInt8.ofNat b.toNat).toNat : Int) = b := by simp; omega
  rw [← e]; exact ReadEscape_walk _ w
end Go.Proofs.Ytpggnfpjjppbmaa
