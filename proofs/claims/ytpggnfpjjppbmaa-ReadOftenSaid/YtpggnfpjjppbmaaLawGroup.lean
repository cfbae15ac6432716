/- walk of gimletlaw14.ReadGroup -/
import Derived.Test.YtpggnfpjjppbmaaLawAlt
import Derived.Test.YtpggnfpjjppbmaaBP
import Derived.Test.YtpggnfpjjppbmaaBL
import Derived.Test.YtpggnfpjjppbmaaBR
set_option maxRecDepth 100000
namespace Go.Proofs.Ytpggnfpjjppbmaa
open Go.RowKit
/-- The loop: t in brackets i times, x in as many groups, in block b. -/
def GrRel (bare : Bool) (s : Str) (x : Rx) (b n : Nat) (w : World) (vt vi : Value) (wr : World) : Prop :=
  ∃ (i : Nat) (cc : List Value), i ≤ n ∧ vt = .string ⟨(wrpsS bare i s).toArray⟩ ∧ vi = .int .i64 i ∧ wr.heap[b]? = some (.cells cc.toArray 26 (0, 0)) ∧ RxV wr (fun k => k ≠ b) cc (wrpsR bare i x) ∧ Below w.heap.size w wr
theorem wrpsS_len (bare : Bool) (s : Str) : ∀ n, (wrpsS bare n s).length ≤ s.length + 4 * n
  | 0 => by simp [wrpsS]
  | n + 1 => by
    have i := wrpsS_len bare s n
    have : (opS bare).length ≤ 3 := by cases bare <;> decide
    show (opS bare ++ (wrpsS bare n s ++ [41])).length ≤ _
    rw [List.length_append, List.length_append]; simp; omega
theorem cells_setCell {w : World} {b j : Nat} {cs : Array Value} {t : TypeId} {u : Value} (h : w.heap[b]? = some (.cells cs t (0, 0))) : (w.setCell ⟨b, j, none⟩ u).heap[b]? = some (.cells (cs.setIfInBounds j u) t (0, 0)) := by
  have hlt := heap_lt h
  have h' : w.heap[b] = .cells cs t (0, 0) := by simpa [Array.getElem?_eq_getElem hlt] using h
  show (w.heap.modify b _)[b]? = _
  rw [Array.getElem?_eq_getElem (by simpa using hlt), Array.getElem_modify_self, h']
  rfl
theorem set8_box {w : World} {b : Nat} {v0 v1 v2 v3 v4 v5 v6 v7 u0 u1 u2 u3 u4 u5 u6 u7 : Value} {t : TypeId} (h : w.heap[b]? = some (.cells #[v0, v1, v2, v3, v4, v5, v6, v7] t (0, 0))) : (set8 w b u0 u1 u2 u3 u4 u5 u6 u7).heap[b]? = some (.cells #[u0, u1, u2, u3, u4, u5, u6, u7] t (0, 0)) := by
  unfold set8
  have e0 : (w.setCell ⟨b, 0, none⟩ u0).heap[b]? = some (.cells #[u0, v1, v2, v3, v4, v5, v6, v7] t (0, 0)) := cells_setCell h
  have e1 : ((w.setCell ⟨b, 0, none⟩ u0).setCell ⟨b, 1, none⟩ u1).heap[b]? = some (.cells #[u0, u1, v2, v3, v4, v5, v6, v7] t (0, 0)) := cells_setCell e0
  have e2 : (((w.setCell ⟨b, 0, none⟩ u0).setCell ⟨b, 1, none⟩ u1).setCell ⟨b, 2, none⟩ u2).heap[b]? = some (.cells #[u0, u1, u2, v3, v4, v5, v6, v7] t (0, 0)) := cells_setCell e1
  have e3 : ((((w.setCell ⟨b, 0, none⟩ u0).setCell ⟨b, 1, none⟩ u1).setCell ⟨b, 2, none⟩ u2).setCell ⟨b, 3, none⟩ u3).heap[b]? = some (.cells #[u0, u1, u2, u3, v4, v5, v6, v7] t (0, 0)) := cells_setCell e2
  have e4 : (((((w.setCell ⟨b, 0, none⟩ u0).setCell ⟨b, 1, none⟩ u1).setCell ⟨b, 2, none⟩ u2).setCell ⟨b, 3, none⟩ u3).setCell ⟨b, 4, none⟩ u4).heap[b]? = some (.cells #[u0, u1, u2, u3, u4, v5, v6, v7] t (0, 0)) := cells_setCell e3
  have e5 : ((((((w.setCell ⟨b, 0, none⟩ u0).setCell ⟨b, 1, none⟩ u1).setCell ⟨b, 2, none⟩ u2).setCell ⟨b, 3, none⟩ u3).setCell ⟨b, 4, none⟩ u4).setCell ⟨b, 5, none⟩ u5).heap[b]? = some (.cells #[u0, u1, u2, u3, u4, u5, v6, v7] t (0, 0)) := cells_setCell e4
  have e6 : (((((((w.setCell ⟨b, 0, none⟩ u0).setCell ⟨b, 1, none⟩ u1).setCell ⟨b, 2, none⟩ u2).setCell ⟨b, 3, none⟩ u3).setCell ⟨b, 4, none⟩ u4).setCell ⟨b, 5, none⟩ u5).setCell ⟨b, 6, none⟩ u6).heap[b]? = some (.cells #[u0, u1, u2, u3, u4, u5, u6, v7] t (0, 0)) := cells_setCell e5
  have e7 : ((((((((w.setCell ⟨b, 0, none⟩ u0).setCell ⟨b, 1, none⟩ u1).setCell ⟨b, 2, none⟩ u2).setCell ⟨b, 3, none⟩ u3).setCell ⟨b, 4, none⟩ u4).setCell ⟨b, 5, none⟩ u5).setCell ⟨b, 6, none⟩ u6).setCell ⟨b, 7, none⟩ u7).heap[b]? = some (.cells #[u0, u1, u2, u3, u4, u5, u6, u7] t (0, 0)) := cells_setCell e6
  exact e7
theorem set8_below {w0 w : World} {b : Nat} {u0 u1 u2 u3 u4 u5 u6 u7 : Value} (h : Below w0.heap.size w0 w) (hb : w0.heap.size ≤ b) : Below w0.heap.size w0 (set8 w b u0 u1 u2 u3 u4 u5 u6 u7) := by
  unfold set8
  iterate 8 (refine Below.setCell ?_ hb _)
  exact h
/-- One more group around, in the box. -/
theorem GrRel.step {bare : Bool} {s : Str} {x : Rx} {b n i : Nat} {w wr : World} {cc : List Value} {k : Int} {vt vi : Value} (hk : k = gk bare) (hi : i < n) (hq : wr.heap[b]? = some (.cells cc.toArray 26 (0, 0))) (hv : RxV wr (fun k => k ≠ b) cc (wrpsR bare i x)) (hb : Below w.heap.size w wr) (hwb : w.heap.size ≤ b)
    (hvt : vt = .string ⟨(wrpsS bare (i + 1) s).toArray⟩) (hvi : vi = .int .i64 ((i : Int) + 1)) :
    GrRel bare s x b n w vt vi ((set8 wr b (.int .i64 k) (.string ⟨#[]⟩) (.bool false) (.slice none 0 0) (.int .i64 0) (.int .i64 0) (.bool false) (.slice (some ⟨wr.heap.size, 0, none⟩) 1 1)).alloc (.cells cc.toArray 26)) := by
  have hlt := heap_lt hq
  obtain ⟨u0, u1, u2, u3, u4, u5, u6, u7, he⟩ : ∃ u0 u1 u2 u3 u4 u5 u6 u7, cc.toArray = #[u0, u1, u2, u3, u4, u5, u6, u7] := by
    obtain ⟨k, c, ng, rs, lo, hi, lz, ks, ra, rc, ka, kc, _, rfl⟩ := hv.box
    exact ⟨_, _, _, _, _, _, _, _, rfl⟩
  have hq0 := hq
  rw [he] at hq0
  have q1 := set8_box (u0 := .int .i64 k) (u1 := .string ⟨#[]⟩) (u2 := .bool false) (u3 := .slice none 0 0) (u4 := .int .i64 0) (u5 := .int .i64 0) (u6 := .bool false) (u7 := .slice (some ⟨wr.heap.size, 0, none⟩) 1 1) hq0
  have hz := set8_size wr b (u0 := .int .i64 k) (u1 := .string ⟨#[]⟩) (u2 := .bool false) (u3 := .slice none 0 0) (u4 := .int .i64 0) (u5 := .int .i64 0) (u6 := .bool false) (u7 := .slice (some ⟨wr.heap.size, 0, none⟩) 1 1)
  obtain ⟨w8, hw8⟩ : ∃ w8, w8 = set8 wr b (.int .i64 k) (.string ⟨#[]⟩) (.bool false) (.slice none 0 0) (.int .i64 0) (.int .i64 0) (.bool false) (.slice (some ⟨wr.heap.size, 0, none⟩) 1 1) := ⟨_, rfl⟩
  have hv8 : RxV w8 (fun k => k ≠ b) cc (wrpsR bare i x) := hw8 ▸ hv.keep (set8_kept wr b fun k hk => hk)
  have hb8 : Below w.heap.size w w8 := hw8 ▸ set8_below hb hwb
  rw [← hw8] at q1 hz ⊢
  have ha : Below w8.heap.size w8 (w8.alloc (.cells cc.toArray 26)) := (Below.refl _ _).alloc (Nat.le_refl _) _
  have q2 : (w8.alloc (.cells cc.toArray 26)).heap[wr.heap.size]? = some (.cells cc.toArray 26 (0, 0)) := by
    have := heap_alloc_new w8 (.cells cc.toArray 26); rw [hz] at this; exact this
  refine ⟨i + 1, rxc k [] false none ([] : List Row).length 0 0 0 false (some ⟨wr.heap.size, 0, none⟩) [wrpsR bare i x].length 1, hi, hvt, by rw [hvi]; rfl, ?_, ?_, hb8.alloc hb8.size _⟩
  · exact (ha.block _ (by omega)).trans q1
  · rw [hk]
    exact RxV.close (SlS.none_ _ _ _ _) (RxSl.one (hv8.later ha) q2 (by omega))
theorem wrpsR_small (bare : Bool) {x : Rx} (h : x.small) : ∀ n, (wrpsR bare n x).small ∧ (wrpsR bare n x).parts = x.parts + n
  | 0 => ⟨h, rfl⟩
  | n + 1 => by
    obtain ⟨i1, i2⟩ := wrpsR_small bare h n
    refine ⟨?_, ?_⟩
    · simp only [wrpsR, grpR, Rx.small, Rx.small1, Rx.smallL]; exact ⟨⟨by simp, by simp, by simp, by simp⟩, i1, trivial⟩
    · simp only [wrpsR, grpR, Rx.parts, Rx.partsL, i2]; omega
set_option maxHeartbeats 4000000 in
theorem ReadGroup_walk (s : Str) (bare : Bool) (many : Int) (w : World) (hs : s.length ≤ maxLen) :
    Calls Try.prog 9 #[.string ⟨(s).toArray⟩, .bool bare, .int .i64 many] w fun e w' => e = .returned (.bool true) ∧ Below w.heap.size w w' := by
  unfold maxLen at hs
  by_cases h1 : s.length ≤ 60
  · cases hx : readM s with
    | error q =>
      have hq0 := readM_err hx
      have HX := Lib.hid (fun w => Read_no w (by omega) hx)
      have ne1 : (q != 0) = true := by simp [bne, hq0]
      clear hx
      go_enter Try.func9, Try.ntmps9
      go_wp2_with (go_at_call 13; refine (HX.out _).mono ?_)
      rintro e w1 ⟨rfl, hb1⟩
      unfold rxv0
      go_wp2_with (go_at_call 12; refine (awake_any _).mono ?_)
      rintro e w9 ⟨rfl, hb9⟩
      go_wp2
      go_ret
      exact ⟨rfl, bstep (hb1) hb9⟩
    | ok x =>
      obtain ⟨sx, px⟩ := readM_small hx
      have HRG := Lib.hid hx
      have HX := Lib.hid (fun w => Read_ok w (by omega) hx)
      have hlow := low_lt many (n := 21) (by omega)
      obtain ⟨n, hn⟩ : ∃ n : Nat, low many 21 = n := ⟨(low many 21).toNat, by omega⟩
      have hn20 : n ≤ 20 := by omega
      have HLOW := Lib.hid (fun w => hn ▸ Low_any many 21 w (by omega) (by omega))
      have HSX := Lib.hid sx
      clear hx hlow hn sx
      go_enter Try.func9, Try.ntmps9
      go_wp2_with (go_at_call 13; refine (HX.out _).mono ?_)
      rintro e w1 ⟨hb1, cc1, rfl, hv1⟩
      obtain ⟨k1, c1, n1, r1, l1, h1, z1, s1, a1, d1, b1, g1, hx1, rfl⟩ := hv1.box
      have HV1 := Lib.hid hv1
      have HX1 := Lib.hid hx1
      clear hv1 hx1
      unfold rxc at HV1 ⊢
      have hz1 := hb1.size
      obtain ⟨w2, hw2⟩ : ∃ w2, w2 = w1.alloc (.cells #[.int .i64 k1, .string ⟨(c1).toArray⟩, .bool n1, .slice a1 r1.length d1, .int .i64 l1, .int .i64 h1, .bool z1, .slice b1 s1.length g1] 26) := ⟨_, rfl⟩
      have hb2 : Below w1.heap.size w1 w2 := by rw [hw2]; exact (Below.refl _ _).alloc (Nat.le_refl _) _
      have q2 : w2.heap[w1.heap.size]? = some (.cells #[.int .i64 k1, .string ⟨(c1).toArray⟩, .bool n1, .slice a1 r1.length d1, .int .i64 l1, .int .i64 h1, .bool z1, .slice b1 s1.length g1] 26 (0, 0)) := by rw [hw2]; exact heap_alloc_new w1 _
      have HRel : Hid (GrRel bare s x w1.heap.size n w (.string ⟨(s).toArray⟩) (.int .i64 0) w2) := Lib.hid ⟨0, _, Nat.zero_le _, rfl, rfl, q2, (HV1.out.mono (fun b _ hb => Nat.ne_of_lt hb)).later hb2, hb1.trans (hb2.mono hz1)⟩
      have HW2 := Lib.hid hw2
      clear q2 hb2 hw2 HV1
      go_wp2_with (go_at_call 21; refine (HLOW.out _).mono ?_)
      rintro e w3 ⟨rfl, rfl⟩
      rw [← HW2.out]
      go_wp2
      go_loopw [9, 11] (fun t i wr => GrRel bare s x w1.heap.size n w t i wr) (fun _ q _ => n - (intOf q).toNat)
      case atStart => exact HRel.out
      case round =>
        obtain ⟨i, cc, hi, rfl, rfl, hq, hv, hb⟩ := hrel
        have hwl := wrpsS_len bare s i
        obtain ⟨k, c, ng, rs, lo, hi, lz, ks, ra, rc, ka, kc, hxx, rfl⟩ := hv.box
        have HV := Lib.hid hv
        have HQ := Lib.hid hq
        unfold rxc at hq
        obtain ⟨x0, x1, x2, x3, x4, x5, x6, x7, x8⟩ := bx_cells hq
        have hlt := heap_lt hq
        have hne : w1.heap.size ≠ wr.heap.size := Nat.ne_of_lt hlt
        have HXX := Lib.hid hxx
        clear hv hq hxx
        by_cases hin : i = n
        · subst hin
          have hrd := read_group bare i (by omega) HRG.out
          obtain ⟨sw, pw⟩ := wrpsR_small bare HSX.out i
          obtain ⟨X, hX⟩ : ∃ X, wrpsR bare i x = X := ⟨_, rfl⟩
          obtain ⟨T, hT⟩ : ∃ T, wrpsS bare i s = T := ⟨_, rfl⟩
          rw [hX] at hrd sw pw HV
          rw [hT] at hrd hwl ⊢
          have HSW := Lib.hid sw
          clear x0 x1 x2 x3 x4 x5 x6 x7 x8 hX hT HXX HRel HX1 HX HLOW HRG HSX sw
          by_cases hd : X.deep ≤ 16
          · rw [if_pos hd] at hrd
            have HY := Lib.hid (fun w => Read_ok w (by omega) hrd)
            have hdd : decide ((16 : Int) < (X.deep : Int)) = false := decide_eq_false (by omega)
            clear hrd
            go_wp2_with (go_at_call 13; refine (HY.out _).mono ?_)
            rintro e w4 ⟨hb4, cc4, rfl, hv4⟩
            obtain ⟨k4, c4, n4, r4, l4, h4, z4, s4, a4, d4, b4, g4, hx4, rfl⟩ := hv4.box
            have HV4 := Lib.hid hv4
            have HX4 := Lib.hid hx4
            clear hv4 hx4
            unfold rxc at HV4 ⊢
            obtain ⟨wq, hwq⟩ : ∃ wq, wq = w4.alloc (.cells #[.int .i64 k4, .string ⟨(c4).toArray⟩, .bool n4, .slice a4 r4.length d4, .int .i64 l4, .int .i64 h4, .bool z4, .slice b4 s4.length g4] 26) := ⟨_, rfl⟩
            have hB4 : Below w4.heap.size w4 wq := by rw [hwq]; exact (Below.refl _ _).alloc (Nat.le_refl _) _
            have q4 : wq.heap[w4.heap.size]? = some (.cells #[.int .i64 k4, .string ⟨(c4).toArray⟩, .bool n4, .slice a4 r4.length d4, .int .i64 l4, .int .i64 h4, .bool z4, .slice b4 s4.length g4] 26 (0, 0)) := by rw [hwq]; exact heap_alloc_new w4 _
            have hz4 := hb4.size
            have hbq : Below wr.heap.size wr wq := hb4.trans (hB4.mono hz4)
            have HQ5 := Lib.hid ((hbq.block _ hlt).trans HQ.out)
            have HQ4 := Lib.hid q4
            have HVX := Lib.hid (HV.out.later hbq)
            have HVY := Lib.hid (HV4.out.later hB4)
            obtain ⟨x0, x1, x2, x3, x4, x5, x6, x7, x8⟩ := bx_cells HQ5.out
            unfold rxc at HVX
            clear q4 HV HV4 HQ HX4
            subst hwq
            go_wp2_with (go_at_call 24; refine (Deep_any _ _ X (Nat.le_refl _) (by omega) _ _ HVX.out).mono ?_)
            rintro e w5 ⟨rfl, hb5⟩
            clear x0 x1 x2 x3 x4 x5 x6 x7 x8
            obtain ⟨x0, x1, x2, x3, x4, x5, x6, x7, x8⟩ := bx_cells ((hb5.block _ (heap_lt HQ5.out)).trans HQ5.out)
            obtain ⟨y0, y1, y2, y3, y4, y5, y6, y7, y8⟩ := bx_cells ((hb5.block _ (heap_lt HQ4.out)).trans HQ4.out)
            have HVX5 := Lib.hid (HVX.out.later hb5)
            have HVY5 := Lib.hid (HVY.out.later hb5)
            clear HVX HVY
            go_wp2_with (go_at_call 15; refine (Same_eq _ HSW.out HVX5.out HVY5.out).mono ?_)
            rintro e w6 ⟨rfl, hb6⟩
            have hbw : Below w.heap.size w w6 := (hb.trans (hbq.mono hb.size)).trans ((hb5.trans (hb6.mono hb5.size)).mono (Nat.le_trans hb.size hbq.size))
            go_wp2_with (go_at_call 12; refine (awake_any _).mono ?_; rintro e w9 ⟨rfl, hb9⟩)
            go_ret
            exact ⟨rfl, hbw.trans (hb9.mono hbw.size)⟩
          · rw [if_neg hd] at hrd
            have HY := Lib.hid (fun w => Read_no w (by omega) hrd)
            have hdd : decide ((16 : Int) < (X.deep : Int)) = true := decide_eq_true (by omega)
            clear hrd
            go_wp2_with (go_at_call 13; refine (HY.out _).mono ?_)
            rintro e w4 ⟨rfl, hb4⟩
            unfold rxv0
            have hB4 : Below w4.heap.size w4 (w4.alloc (.cells #[.int .i64 0, .string ⟨#[]⟩, .bool false, .slice none 0 0, .int .i64 0, .int .i64 0, .bool false, .slice none 0 0] 26)) := (Below.refl _ _).alloc (Nat.le_refl _) _
            have hz4 := hb4.size
            have hbq : Below wr.heap.size wr (w4.alloc (.cells #[.int .i64 0, .string ⟨#[]⟩, .bool false, .slice none 0 0, .int .i64 0, .int .i64 0, .bool false, .slice none 0 0] 26)) := hb4.trans (hB4.mono hz4)
            have HQ5 := Lib.hid ((hbq.block _ hlt).trans HQ.out)
            have HVX := Lib.hid (HV.out.later hbq)
            obtain ⟨x0, x1, x2, x3, x4, x5, x6, x7, x8⟩ := bx_cells HQ5.out
            unfold rxc at HVX
            clear HV HQ
            go_wp2_with (go_at_call 24; refine (Deep_any _ _ X (Nat.le_refl _) (by omega) _ _ HVX.out).mono ?_)
            rintro e w5 ⟨rfl, hb5⟩
            have hbw : Below w.heap.size w w5 := (hb.trans (hbq.mono hb.size)).trans (hb5.mono (Nat.le_trans hb.size hbq.size))
            go_wp2_with (go_at_call 12; refine (awake_any _).mono ?_; rintro e w9 ⟨rfl, hb9⟩)
            go_ret
            exact ⟨rfl, hbw.trans (hb9.mono hbw.size)⟩
        · have hin' : i < n := by omega
          cases bare with
          | true =>
            go_wp2
            exact ⟨GrRel.step (bare := true) rfl hin' HQ.out HV.out hb hz1 (by simp [wrpsS, wrpS, opS]) rfl, by simp [intOf]; omega⟩
          | false =>
            go_wp2
            exact ⟨GrRel.step (bare := false) rfl hin' HQ.out HV.out hb hz1 (by simp [wrpsS, wrpS, opS]) rfl, by simp [intOf]; omega⟩
  · go_enter Try.func9, Try.ntmps9
    go_wp2_with (go_at_call 12; refine (awake_any _).mono ?_; rintro e w4 ⟨rfl, hb4⟩)
    all_goals first
      | (go_ret; exact ⟨rfl, hb4⟩)
      | (exfalso; omega)
end Go.Proofs.Ytpggnfpjjppbmaa
