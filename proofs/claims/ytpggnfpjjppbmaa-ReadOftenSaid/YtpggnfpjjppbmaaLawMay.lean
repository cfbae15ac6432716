/- walk of gimletlaw14.ReadMay -/
import Derived.Test.YtpggnfpjjppbmaaLawAlt
import Derived.Test.YtpggnfpjjppbmaaBP
import Derived.Test.YtpggnfpjjppbmaaBR
set_option maxRecDepth 100000
namespace Go.Proofs.Ytpggnfpjjppbmaa
open Go.RowKit
theorem leaf_v {W : World} {k : Int} {c : Str} {ng : Bool} {lo hi : Int} {lz : Bool} : RxV W Any [.int .i64 k, .string ⟨(c).toArray⟩, .bool ng, .slice none 0 0, .int .i64 lo, .int .i64 hi, .bool lz, .slice none 0 0] (.mk k c ng [] lo hi lz []) :=
  RxV.close (rs := []) (ks := []) (SlS.none_ _ _ _ _) ⟨[], SlS.none_ _ _ _ _, .nil⟩
theorem small_zero : rx0.small := by unfold rx0; simp [Rx.small, Rx.small1, Rx.smallL]
theorem take_count {s r : Str} {i : Nat} {c : UInt8} (h : s.drop i = c :: r) : (s.take (i + 1)).count 40 = (s.take i).count 40 + if c = 40 then 1 else 0 := by
  have hi : s[i]? = some c := by
    have := congrArg List.head? h
    rw [List.head?_drop] at this; simpa using this
  rw [List.take_add_one, hi, List.count_append]
  simp [List.count_cons]
set_option maxHeartbeats 4000000 in
theorem ReadMay_walk (s : Str) (w : World) (hs : s.length ≤ maxLen) :
    Calls Try.prog 11 #[.string ⟨(s).toArray⟩] w fun e w' => e = .returned (.bool true) ∧ Below w.heap.size w w' := by
  unfold maxLen at hs
  by_cases h1 : s.length ≤ 260
  · cases hx : readM s with
    | error q =>
      have hq0 := readM_err hx
      have HX := Lib.hid (fun w => Read_no w (by omega) hx)
      have ne1 : (q != 0) = true := by simp [bne, hq0]
      clear hx
      go_enter Try.func11, Try.ntmps11
      go_wp2_with (go_at_call 13; refine (HX.out _).mono ?_)
      rintro e w1 ⟨rfl, hb1⟩
      unfold rxv0
      have hB1 : Below w1.heap.size w1 (w1.alloc (.cells #[.int .i64 0, .string ⟨#[]⟩, .bool false, .slice none 0 0, .int .i64 0, .int .i64 0, .bool false, .slice none 0 0] 26)) := (Below.refl _ _).alloc (Nat.le_refl _) _
      have hbx := bel2 hb1 hB1
      go_wp2_with (go_at_call 15; refine (Same_eq _ small_zero leaf_v leaf_v).mono ?_)
      first | rintro e w2 rfl hb2 | rintro e w2 ⟨rfl, hb2⟩
      have hbw := bel2 hbx hb2
      go_wp2_with (go_at_call 12; refine (awake_any _).mono ?_; rintro e w9 ⟨rfl, hb9⟩)
      go_ret
      exact ⟨rfl, bel2 hbw hb9⟩
    | ok x =>
      obtain ⟨sx, px⟩ := readM_small hx
      obtain ⟨m1, m2, m3⟩ := read_may hx
      have HX := Lib.hid (fun w => Read_ok w (by omega) hx)
      have HSX := Lib.hid sx
      have HM1 := Lib.hid m1
      have HM2 := Lib.hid m2
      have HM3 := Lib.hid m3
      clear hx sx m1 m2 m3
      go_enter Try.func11, Try.ntmps11
      go_wp2_with (go_at_call 13; refine (HX.out _).mono ?_)
      rintro e w1 ⟨hb1, cc1, rfl, hv1⟩
      obtain ⟨k1, c1, n1, r1, l1, h1, z1, s1, a1, d1, b1, g1, hx1, rfl⟩ := hv1.box
      have HV1 := Lib.hid hv1
      have HX1 := Lib.hid hx1
      clear hv1 hx1
      unfold rxc at HV1 ⊢
      have hz1 := hb1.size
      obtain ⟨wq, hwq⟩ : ∃ wq, wq = w1.alloc (.cells #[.int .i64 k1, .string ⟨(c1).toArray⟩, .bool n1, .slice a1 r1.length d1, .int .i64 l1, .int .i64 h1, .bool z1, .slice b1 s1.length g1] 26) := ⟨_, rfl⟩
      have hB1 : Below w1.heap.size w1 wq := by rw [hwq]; exact (Below.refl _ _).alloc (Nat.le_refl _) _
      have q1 : wq.heap[w1.heap.size]? = some (.cells #[.int .i64 k1, .string ⟨(c1).toArray⟩, .bool n1, .slice a1 r1.length d1, .int .i64 l1, .int .i64 h1, .bool z1, .slice b1 s1.length g1] 26 (0, 0)) := by rw [hwq]; exact heap_alloc_new w1 _
      have hbq := bel2 hb1 hB1
      have HV := Lib.hid (HV1.out.later hB1)
      have HQ := Lib.hid q1
      have HWQ := Lib.hid hwq
      clear HV1 hwq q1 HX1
      go_wp2
      rw [← HWQ.out]
      go_loop [5, 6] (fun m q => ∃ i : Nat, i ≤ s.length ∧ q = .int .i64 i ∧ m = .int .i64 ((s.take i).count 40 : Nat)) (fun _ q => s.length - (intOf q).toNat)
      case atStart => exact ⟨0, by omega, rfl, by simp⟩
      case round =>
        obtain ⟨i, hi, rfl, rfl⟩ := hrel
        have hcl : (s.take i).count 40 ≤ i := Nat.le_trans (List.count_le_length) (by simp; omega)
        cases hd : s.drop i with
        | nil =>
          have h2 := drop_nil hd
          have hi' : i = s.length := by omega
          subst hi'
          rw [List.take_length] at hcl ⊢
          have hm2 := HM2.out
          have hm3 := HM3.out
          have d2 : decide ((x.groups : Int) ≤ ((s.count 40 : Nat) : Int)) = true := decide_eq_true (by omega)
          have d3 : decide ((x.parts : Int) ≤ 2 * (s.length : Int) + 1) = true := decide_eq_true (by omega)
          obtain ⟨x0, x1, x2, x3, x4, x5, x6, x7, x8⟩ := bx_cells HQ.out
          clear hd
          go_wp2_with (go_at_call 25; refine (RxMay_any _ x _ _ (by omega) HSX.out HV.out).mono ?_)
          first | rintro e w2 rfl hb2 | rintro e w2 ⟨rfl, hb2⟩
          rw [HM1.out]
          clear x0 x1 x2 x3 x4 x5 x6 x7 x8
          obtain ⟨x0, x1, x2, x3, x4, x5, x6, x7, x8⟩ := bx_cells ((hb2.block _ (heap_lt HQ.out)).trans HQ.out)
          have HV2 := Lib.hid (HV.out.later hb2)
          go_wp2_with (go_at_call 26; refine (Groups_any _ _ x (Nat.le_refl _) (by omega) _ _ HV2.out).mono ?_)
          first | rintro e w3 rfl hb3' | rintro e w3 ⟨rfl, hb3'⟩
          have hb3 := bel2 hb2 hb3'
          clear x0 x1 x2 x3 x4 x5 x6 x7 x8 hb3'
          obtain ⟨x0, x1, x2, x3, x4, x5, x6, x7, x8⟩ := bx_cells ((hb3.block _ (heap_lt HQ.out)).trans HQ.out)
          have HV3 := Lib.hid (HV.out.later hb3)
          go_wp2_with (go_at_call 27; refine (Parts_any _ _ x (Nat.le_refl _) (by omega) _ _ HV3.out).mono ?_)
          first | rintro e w4 rfl hb4' | rintro e w4 ⟨rfl, hb4'⟩
          have hb4 := bel2 hbq (bel2 hb3 hb4')
          go_wp2_with (go_at_call 12; refine (awake_any _).mono ?_; rintro e w9 ⟨rfl, hb9⟩)
          go_ret
          exact ⟨rfl, bel2 hb4 hb9⟩
        | cons c r =>
          obtain ⟨h2, h3, hr⟩ := drop_cons hd
          have ht := take_count hd
          clear hd
          by_cases hc : c = 40
          · subst hc
            rw [if_pos rfl] at ht
            go_wp2
            go_round
            case rel => exact ⟨i + 1, by omega, by go_num, by rw [ht]; go_num⟩
            case measure => simp [intOf]; omega
          · rw [if_neg hc] at ht
            have hc2 : ((c.toNat : Int) == 40) = false := by
              rw [beq_eq_false_iff_ne]; intro e; exact hc (UInt8.toNat_inj.1 (by have : c.toNat = 40 := by omega
                                                                                 exact this))
            go_wp2
            go_round
            case rel => exact ⟨i + 1, by omega, by go_num, by rw [ht]; rfl⟩
            case measure => simp [intOf]; omega
  · go_enter Try.func11, Try.ntmps11
    go_wp2_with (go_at_call 12; refine (awake_any _).mono ?_; rintro e w4 ⟨rfl, hb4⟩)
    all_goals first
      | (go_ret; exact ⟨rfl, hb4⟩)
      | (exfalso; omega)
end Go.Proofs.Ytpggnfpjjppbmaa
