/- walk of gimletlaw14.ReadSeq -/
import Derived.Test.YtpggnfpjjppbmaaLawAlt
set_option maxRecDepth 100000
namespace Go.Proofs.Ytpggnfpjjppbmaa
open Go.RowKit
set_option maxHeartbeats 8000000 in
theorem ReadSeq_walk (s t : Str) (w : World) (hs : s.length ≤ maxLen) (ht : t.length ≤ maxLen) :
    Calls Try.prog 5 #[.string ⟨(s).toArray⟩, .string ⟨(t).toArray⟩] w fun e w' => e = .returned (.bool true) ∧ Below w.heap.size w w' := by
  unfold maxLen at hs ht
  by_cases h1 : s.length ≤ 100
  · by_cases h2 : t.length ≤ 100
    · cases hx : readM s with
      | error q =>
        have hq0 := readM_err hx
        have HX := Lib.hid (fun w => Read_no w (by omega) hx)
        have ne1 : (q != 0) = true := by simp [bne, hq0]
        clear hx
        go_enter Try.func5, Try.ntmps5
        go_wp2_with (go_at_call 13; refine (HX.out _).mono ?_)
        rintro e w1 ⟨rfl, hb1⟩
        unfold rxv0
        go_wp2_with (go_at_call 13; refine (Read_gen (s := t) _ (by first | omega | (simp; omega))).mono ?_)
        rintro e w2 ⟨k2, c2, n2, a2, r2, d2, l2, h2, z2, b2, s2, g2, q2, rfl, hb2⟩
        go_wp2_with (go_at_call 12; refine (awake_any _).mono ?_)
        rintro e w9 ⟨rfl, hb9⟩
        go_wp2
        go_ret
        exact ⟨rfl, bstep (bstep hb1 hb2) hb9⟩
      | ok x =>
        cases hy : readM t with
        | error q =>
          have hq0 := readM_err hy
          have HX := Lib.hid (fun w => Read_ok w (by omega) hx)
          have HY := Lib.hid (fun w => Read_no w (by omega) hy)
          have ne1 : (q != 0) = true := by simp [bne, hq0]
          clear hx hy
          go_enter Try.func5, Try.ntmps5
          go_wp2_with (go_at_call 13; refine (HX.out _).mono ?_)
          rintro e w1 ⟨hb1, cc1, rfl, hv1⟩
          obtain ⟨k1, c1, n1, r1, l1, h1, z1, s1, a1, d1, b1, g1, hx1, rfl⟩ := hv1.box
          have HV1 := Lib.hid hv1
          have HX1 := Lib.hid hx1
          clear hv1 hx1
          unfold rxc at HV1 ⊢
          go_wp2_with (go_at_call 13; refine (HY.out _).mono ?_)
          rintro e w2 ⟨rfl, hb2⟩
          unfold rxv0
          go_wp2_with (go_at_call 12; refine (awake_any _).mono ?_)
          rintro e w9 ⟨rfl, hb9⟩
          go_wp2
          go_ret
          exact ⟨rfl, bstep (bstep hb1 hb2) hb9⟩
        | ok y =>
          by_cases hkx : x.kind = 1
          · have HX := Lib.hid (fun w => Read_ok w (by omega) hx)
            have HY := Lib.hid (fun w => Read_ok w (by omega) hy)
            have HKX := Lib.hid hkx
            clear hx hy hkx
            go_enter Try.func5, Try.ntmps5
            go_wp2_with (go_at_call 13; refine (HX.out _).mono ?_)
            rintro e w1 ⟨hb1, cc1, rfl, hv1⟩
            obtain ⟨k1, c1, n1, r1, l1, h1, z1, s1, a1, d1, b1, g1, hx1, rfl⟩ := hv1.box
            have HV1 := Lib.hid hv1
            have HX1 := Lib.hid hx1
            clear hv1 hx1
            unfold rxc at HV1 ⊢
            have ek : k1 = 1 := by have := HKX.out; rw [HX1.out] at this; exact this
            subst ek
            have q1 := heap_alloc_new w1 (.cells #[.int .i64 1, .string ⟨(c1).toArray⟩, .bool n1, .slice a1 r1.length d1, .int .i64 l1, .int .i64 h1, .bool z1, .slice b1 s1.length g1] 26)
            go_wp2_with (go_at_call 13; refine (HY.out _).mono ?_)
            rintro e w2 ⟨hb2, cc2, rfl, hv2⟩
            obtain ⟨k2, c2, n2, r2, l2, h2, z2, s2, a2, d2, b2, g2, hx2, rfl⟩ := hv2.box
            have HV2 := Lib.hid hv2
            have HX2 := Lib.hid hx2
            clear hv2 hx2
            unfold rxc at HV2 ⊢
            have q2 := (hb2.block _ (heap_lt q1)).trans q1
            have hB2 : Below w2.heap.size w2 (w2.alloc (.cells #[.int .i64 k2, .string ⟨(c2).toArray⟩, .bool n2, .slice a2 r2.length d2, .int .i64 l2, .int .i64 h2, .bool z2, .slice b2 s2.length g2] 26)) := (Below.refl _ _).alloc (Nat.le_refl _) _
            obtain ⟨x0, x1, x2, x3, x4, x5, x6, x7, x8⟩ := bx_cells ((hB2.block _ (heap_lt q2)).trans q2)
            clear q1 q2 x8 hB2
            go_wp2_with (go_at_call 12; refine (awake_any _).mono ?_)
            rintro e w9 ⟨rfl, hb9⟩
            go_wp2
            go_ret
            exact ⟨rfl, bstep (bstep hb1 hb2) hb9⟩
          by_cases hky : y.kind = 1
          · have HX := Lib.hid (fun w => Read_ok w (by omega) hx)
            have HY := Lib.hid (fun w => Read_ok w (by omega) hy)
            have HKX := Lib.hid hkx
            have HKY := Lib.hid hky
            clear hx hy hkx hky
            go_enter Try.func5, Try.ntmps5
            go_wp2_with (go_at_call 13; refine (HX.out _).mono ?_)
            rintro e w1 ⟨hb1, cc1, rfl, hv1⟩
            obtain ⟨k1, c1, n1, r1, l1, h1, z1, s1, a1, d1, b1, g1, hx1, rfl⟩ := hv1.box
            have HV1 := Lib.hid hv1
            have HX1 := Lib.hid hx1
            clear hv1 hx1
            unfold rxc at HV1 ⊢
            have ek : ¬ k1 = 1 := by have := HKX.out; rw [HX1.out] at this; exact this
            have ek' : (k1 == 1) = false := beq_eq_false_iff_ne.2 ek
            have q1 := heap_alloc_new w1 (.cells #[.int .i64 k1, .string ⟨(c1).toArray⟩, .bool n1, .slice a1 r1.length d1, .int .i64 l1, .int .i64 h1, .bool z1, .slice b1 s1.length g1] 26)
            clear ek
            go_wp2_with (go_at_call 13; refine (HY.out _).mono ?_)
            rintro e w2 ⟨hb2, cc2, rfl, hv2⟩
            obtain ⟨k2, c2, n2, r2, l2, h2, z2, s2, a2, d2, b2, g2, hx2, rfl⟩ := hv2.box
            have HV2 := Lib.hid hv2
            have HX2 := Lib.hid hx2
            clear hv2 hx2
            unfold rxc at HV2 ⊢
            have ek2 : k2 = 1 := by have := HKY.out; rw [HX2.out] at this; exact this
            subst ek2
            have q2 := (hb2.block _ (heap_lt q1)).trans q1
            have hB2 : Below w2.heap.size w2 (w2.alloc (.cells #[.int .i64 1, .string ⟨(c2).toArray⟩, .bool n2, .slice a2 r2.length d2, .int .i64 l2, .int .i64 h2, .bool z2, .slice b2 s2.length g2] 26)) := (Below.refl _ _).alloc (Nat.le_refl _) _
            obtain ⟨x0, x1, x2, x3, x4, x5, x6, x7, x8⟩ := bx_cells ((hB2.block _ (heap_lt q2)).trans q2)
            clear q1 q2 x8 hB2
            go_wp2_with (go_at_call 12; refine (awake_any _).mono ?_)
            rintro e w9 ⟨rfl, hb9⟩
            go_wp2
            go_ret
            exact ⟨rfl, bstep (bstep hb1 hb2) hb9⟩
          have hz := read_seq (by omega) hx hy hkx hky
          obtain ⟨sx, px⟩ := readM_small hx
          obtain ⟨sy, py⟩ := readM_small hy
          obtain ⟨sz, pz⟩ := readM_small hz
          have HX := Lib.hid (fun w => Read_ok w (by omega) hx)
          have HY := Lib.hid (fun w => Read_ok w (by omega) hy)
          have HZ := Lib.hid (fun w => Read_ok w (by simp; omega) hz)
          have HKX := Lib.hid hkx
          have HKY := Lib.hid hky
          clear hx hy hz hkx hky
          go_enter Try.func5, Try.ntmps5
          go_wp2_with (go_at_call 13; refine (HX.out _).mono ?_)
          rintro e w1 ⟨hb1, cc1, rfl, hv1⟩
          obtain ⟨k1, c1, n1, r1, l1, h1, z1, s1, a1, d1, b1, g1, hx1, rfl⟩ := hv1.box
          have HV1 := Lib.hid hv1
          have HX1 := Lib.hid hx1
          clear hv1 hx1
          unfold rxc at HV1 ⊢
          have ek : ¬ k1 = 1 := by have := HKX.out; rw [HX1.out] at this; exact this
          have ek' : (k1 == 1) = false := beq_eq_false_iff_ne.2 ek
          have q1 := heap_alloc_new w1 (.cells #[.int .i64 k1, .string ⟨(c1).toArray⟩, .bool n1, .slice a1 r1.length d1, .int .i64 l1, .int .i64 h1, .bool z1, .slice b1 s1.length g1] 26)
          clear ek
          go_wp2_with (go_at_call 13; refine (HY.out _).mono ?_)
          rintro e w2 ⟨hb2, cc2, rfl, hv2⟩
          obtain ⟨k2, c2, n2, r2, l2, h2, z2, s2, a2, d2, b2, g2, hx2, rfl⟩ := hv2.box
          have HV2 := Lib.hid hv2
          have HX2 := Lib.hid hx2
          clear hv2 hx2
          unfold rxc at HV2 ⊢
          have fk : ¬ k2 = 1 := by have := HKY.out; rw [HX2.out] at this; exact this
          have fk' : (k2 == 1) = false := beq_eq_false_iff_ne.2 fk
          have q2 := (hb2.block _ (heap_lt q1)).trans q1
          have hB2 : Below w2.heap.size w2 (w2.alloc (.cells #[.int .i64 k2, .string ⟨(c2).toArray⟩, .bool n2, .slice a2 r2.length d2, .int .i64 l2, .int .i64 h2, .bool z2, .slice b2 s2.length g2] 26)) := (Below.refl _ _).alloc (Nat.le_refl _) _
          obtain ⟨x0, x1, x2, x3, x4, x5, x6, x7, x8⟩ := bx_cells ((hB2.block _ (heap_lt q2)).trans q2)
          clear q1 q2 x8 hB2 fk
          go_wp2_with (go_at_call 13; refine (HZ.out _).mono ?_)
          rintro e w3 ⟨hb3, cc3, rfl, hv3⟩
          obtain ⟨k3, c3, n3, r3, l3, h3, z3, s3, a3, d3, b3, g3, hx3, rfl⟩ := hv3.box
          have HV3 := Lib.hid hv3
          have HX3 := Lib.hid hx3
          clear hv3 hx3
          unfold rxc at HV3 ⊢
          clear x0 x1 x2 x3 x4 x5 x6 x7 ek' fk'
          go_upto_region 8 with fail
          have hB1 : Below w1.heap.size w1 (w1.alloc (.cells #[.int .i64 k1, .string ⟨(c1).toArray⟩, .bool n1, .slice a1 r1.length d1, .int .i64 l1, .int .i64 h1, .bool z1, .slice b1 s1.length g1] 26)) := (Below.refl _ _).alloc (Nat.le_refl _) _
          have hB2 : Below w2.heap.size w2 (w2.alloc (.cells #[.int .i64 k2, .string ⟨(c2).toArray⟩, .bool n2, .slice a2 r2.length d2, .int .i64 l2, .int .i64 h2, .bool z2, .slice b2 s2.length g2] 26)) := (Below.refl _ _).alloc (Nat.le_refl _) _
          obtain ⟨wq, hwq⟩ : ∃ wq, wq = w3.alloc (.cells #[.int .i64 k3, .string ⟨(c3).toArray⟩, .bool n3, .slice a3 r3.length d3, .int .i64 l3, .int .i64 h3, .bool z3, .slice b3 s3.length g3] 26) := ⟨_, rfl⟩
          have hB3 : Below w3.heap.size w3 wq := by rw [hwq]; exact (Below.refl _ _).alloc (Nat.le_refl _) _
          rw [← hwq]
          have q1 : wq.heap[w1.heap.size]? = some (.cells #[.int .i64 k1, .string ⟨(c1).toArray⟩, .bool n1, .slice a1 r1.length d1, .int .i64 l1, .int .i64 h1, .bool z1, .slice b1 s1.length g1] 26 (0, 0)) := by
            have e1 := heap_alloc_new w1 (.cells #[.int .i64 k1, .string ⟨(c1).toArray⟩, .bool n1, .slice a1 r1.length d1, .int .i64 l1, .int .i64 h1, .bool z1, .slice b1 s1.length g1] 26)
            have e2 := (hb2.block _ (heap_lt e1)).trans e1
            have e3 := (hB2.block _ (heap_lt e2)).trans e2
            have e4 := (hb3.block _ (heap_lt e3)).trans e3
            exact (hB3.block _ (heap_lt e4)).trans e4
          have q2 : wq.heap[w2.heap.size]? = some (.cells #[.int .i64 k2, .string ⟨(c2).toArray⟩, .bool n2, .slice a2 r2.length d2, .int .i64 l2, .int .i64 h2, .bool z2, .slice b2 s2.length g2] 26 (0, 0)) := by
            have e3 := heap_alloc_new w2 (.cells #[.int .i64 k2, .string ⟨(c2).toArray⟩, .bool n2, .slice a2 r2.length d2, .int .i64 l2, .int .i64 h2, .bool z2, .slice b2 s2.length g2] 26)
            have e4 := (hb3.block _ (heap_lt e3)).trans e3
            exact (hB3.block _ (heap_lt e4)).trans e4
          have q3 : wq.heap[w3.heap.size]? = some (.cells #[.int .i64 k3, .string ⟨(c3).toArray⟩, .bool n3, .slice a3 r3.length d3, .int .i64 l3, .int .i64 h3, .bool z3, .slice b3 s3.length g3] 26 (0, 0)) := by rw [hwq]; exact heap_alloc_new w3 _
          have hz1 := hb1.size
          have hz2 := hb2.size
          have hz3 := hb3.size
          simp only [World.size_alloc] at hz2 hz3
          have hbw : Below w.heap.size w wq := (((((hb1.trans (hB1.mono (by omega))).trans (hb2.mono (by simp; omega))).trans (hB2.mono (by omega))).trans (hb3.mono (by simp; omega))).trans (hB3.mono (by omega)))
          have hu : Below w1.heap.size w1 wq := ((((hB1.trans (hb2.mono (by simp))).trans (hB2.mono (by omega))).trans (hb3.mono (by simp; omega))).trans (hB3.mono (by omega)))
          have hv : Below w2.heap.size w2 wq := ((hB2.trans (hb3.mono (by simp))).trans (hB3.mono (by omega)))
          have hvx : RxV wq (fun _ => True) _ x := (HV1.out.later hu).mono fun _ _ _ => trivial
          have hvy : RxV wq (fun _ => True) _ y := (HV2.out.later hv).mono fun _ _ _ => trivial
          have hvz : RxV wq (fun _ => True) _ (seqR [x, y]) := (HV3.out.later hB3).mono fun _ _ _ => trivial
          have hpp : Rx.partsL [x, y] ≤ 1000000 := by simp only [Rx.partsL]; omega
          have hss : Rx.smallL [x, y] := ⟨sx, sy, trivial⟩
          have hAL : ∀ W : World, Below (wq.alloc (.cells #[.int .i64 k1, .string ⟨(c1).toArray⟩, .bool n1, .slice a1 r1.length d1, .int .i64 l1, .int .i64 h1, .bool z1, .slice b1 s1.length g1, .int .i64 k2, .string ⟨(c2).toArray⟩, .bool n2, .slice a2 r2.length d2, .int .i64 l2, .int .i64 h2, .bool z2, .slice b2 s2.length g2] 26)).heap.size (wq.alloc (.cells #[.int .i64 k1, .string ⟨(c1).toArray⟩, .bool n1, .slice a1 r1.length d1, .int .i64 l1, .int .i64 h1, .bool z1, .slice b1 s1.length g1, .int .i64 k2, .string ⟨(c2).toArray⟩, .bool n2, .slice a2 r2.length d2, .int .i64 l2, .int .i64 h2, .bool z2, .slice b2 s2.length g2] 26)) W → Calls Try.prog 17 #[.slice (some ⟨wq.heap.size, 0, none⟩) 2 2] W fun e w' => LitPost (seqR [x, y]) w3.heap.size #[.int .i64 k3, .string ⟨(c3).toArray⟩, .bool n3, .slice a3 r3.length d3, .int .i64 l3, .int .i64 h3, .bool z3, .slice b3 s3.length g3] wq e w' :=
            fun W hW => Seq_lit hvx hvy hpp hss q3 hW
          have HAL := Lib.hid hAL
          have lt1 := heap_lt q1
          have lt2 := heap_lt q2
          have lt3 := heap_lt q3
          have ne1 : w1.heap.size ≠ wq.heap.size := Nat.ne_of_lt lt1
          have ne2 : w2.heap.size ≠ wq.heap.size := Nat.ne_of_lt lt2
          have ne3 : w3.heap.size ≠ wq.heap.size := Nat.ne_of_lt lt3
          have HVZ := Lib.hid hvz
          have HSZ := Lib.hid sz
          have HBW := Lib.hid hbw
          obtain ⟨x0, x1, x2, x3, x4, x5, x6, x7, x8⟩ := bx_cells q1
          obtain ⟨y0, y1, y2, y3, y4, y5, y6, y7, y8⟩ := bx_cells q2
          obtain ⟨z0, z1', z2', z3', z4, z5, z6, z7, z8⟩ := bx_cells q3
          clear q1 q2 q3 hwq x8 y8 z8 hAL hvz hvx hvy hpp hss hB1 hB2 hB3 hu hv hbw HV1 HV2 HV3 HX1 HX2 HX3 HX HY HZ hb1 hb2 hb3 hz1 hz2 hz3 sx sy sz px py pz
          go_region_with (first
            | (go_at_call 17; refine (HAL.out _ (by (repeat (first | with_reducible exact Below.refl _ _ | with_reducible assumption | (refine Below.setCell ?_ (by simp) _) | (refine Below.alloc ?_ (by first | (simp; done) | (simp; omega)) _) | (refine Below.drew ?_))))).mono ?_; rintro e w5 ⟨cc5, rfl, hv5, hB5, hc5⟩; obtain ⟨k5, c5, n5, r5, l5, h5, z5', s5, a5, d5, b5, g5, hx5, rfl⟩ := hv5.box; unfold rxc at hv5 ⊢; obtain ⟨t0, t1, t2, t3, t4, t5, t6, t7, t8⟩ := bx_cells hc5; clear hc5 t8; have HV5 := Lib.hid hv5; have HX5 := Lib.hid hx5; clear hv5 hx5)
            | (go_at_call 15; refine (Same_lit HSZ.out HVZ.out HV5.out hB5 (by (repeat (first | with_reducible exact Below.refl _ _ | with_reducible assumption | (refine Below.setCell ?_ (by simp) _) | (refine Below.alloc ?_ (by first | (simp; done) | (simp; omega)) _) | (refine Below.drew ?_))))).mono ?_; rintro e w6 ⟨rfl, hB6⟩)
            | (go_at_call 12; refine (awake_lit HBW.out (by (repeat (first | with_reducible exact Below.refl _ _ | with_reducible assumption | (refine Below.setCell ?_ (by simp) _) | (refine Below.alloc ?_ (by first | (simp; done) | (simp; omega)) _) | (refine Below.drew ?_))))).mono ?_; rintro e w7 ⟨rfl, hb7⟩))
          all_goals (go_wp2; go_ret; exact ⟨rfl, hb7⟩)
    · go_enter Try.func5, Try.ntmps5
      go_wp2_with (go_at_call 12; refine (awake_any _).mono ?_; rintro e w4 ⟨rfl, hb4⟩)
      all_goals first
        | (go_ret; exact ⟨rfl, hb4⟩)
        | (exfalso; omega)
  · go_enter Try.func5, Try.ntmps5
    go_wp2_with (go_at_call 12; refine (awake_any _).mono ?_; rintro e w4 ⟨rfl, hb4⟩)
    all_goals first
      | (go_ret; exact ⟨rfl, hb4⟩)
      | (exfalso; omega)
end Go.Proofs.Ytpggnfpjjppbmaa
