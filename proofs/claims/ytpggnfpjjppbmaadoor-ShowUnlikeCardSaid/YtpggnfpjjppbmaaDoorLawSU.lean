/- walk of gimletlaw15.ShowUnlike -/
import Derived.Test.YtpggnfpjjppbmaaDoorBL
set_option maxRecDepth 100000
namespace Go.Proofs.YtpggnfpjjppbmaaDoor
open Go.RowKit
def UnShow (X : Rx) (cc : List Value) (A : Str) (F : Int) : Prop :=
  ∀ w', RxV w' Any cc X → Tab w' → Calls Tryd.prog 11 #[.agg cc.toArray] w' fun e w'' => e = .returned (.tuple #[.string ⟨(A).toArray⟩, .int .i64 F]) ∧ Below w'.heap.size w' w''
theorem unshow_of {x : Rx} {cc : List Value} {L : Int} {m : Bool} {T : Str} {mx : Nat} (h : Fac x cc L m T mx) (h0 : 0 ≤ L) :
    ∃ A F, UnShow x cc A F ∧ ((F = 0 ∧ A = T ∧ m = true) ∨ (F = 10 ∧ A = [])) := by
  cases m with
  | true => exact ⟨T, 0, h.yes h0 rfl, .inl ⟨rfl, rfl, rfl⟩⟩
  | false => exact ⟨[], 10, fun w' hv _ => h.no h0 rfl w' hv, .inr ⟨rfl, rfl⟩⟩
/-- What is read, be it the empty tree. -/
def UnRead (q : Int) (z : Rx) (w : World) (e : Ending) (w' : World) : Prop := Below w.heap.size w w' ∧ ∃ cc : List Value, e = .returned (.tuple #[.agg cc.toArray, .int .i64 q]) ∧ RxV w' Any cc z
theorem read_un (s : Str) (hs : s.length ≤ 1000000) : ∃ (q : Int) (z : Rx), z.small ∧ mayB z = true ∧ (∀ w, Calls Tryd.prog 19 #[.string ⟨(s).toArray⟩] w fun e w' => UnRead q z w e w') ∧ ∀ cc, UnShow z cc z.tell 0 := by
  cases hx : readM s with
  | error q =>
    refine ⟨q, rx0, by simp [rx0, Rx.small, Rx.small1, Rx.smallL], by decide, fun w => (Read_noX w hs hx).mono ?_, fun cc w' h t => Show_yes Any rx0 cc w' (by decide) (by simp [rx0, Rx.small, Rx.small1, Rx.smallL]) h t (by decide) (by decide)⟩
    rintro e w' ⟨rfl, hb⟩
    exact ⟨hb, _, rfl, RxV.close (rs := []) (ks := []) (SlS.none_ _ _ _ _) ⟨[], SlS.none_ _ _ _ _, .nil⟩⟩
  | ok x =>
    obtain ⟨l1, l2, l3, l4⟩ := read_light hx
    refine ⟨0, x, l2, l1, fun w => (Read_okX w hs hx).mono ?_, fun cc w' h t => Show_read hx Any cc w' h t⟩
    rintro e w' ⟨hb, cc, rfl, hv⟩
    exact ⟨hb, cc, rfl, hv.mono fun _ _ _ => trivial⟩
theorem unlike {x y : Rx} (hx : mayB x = true) (hy : mayB y = true) (h : x.tell = y.tell) (hl : x.tell.length ≤ 256) : x = y := by
  have h1 := read_tell hx hl
  rw [h] at h1 hl
  have h2 := read_tell hy hl
  rw [h1] at h2
  injection h2
/- the second condition, and the end: world W, H0: Below w0 W, HZ: Below wz W; A: what x is told as, and OK -/
set_option maxHeartbeats 4000000 in
theorem ShowUnlike_walk (x y : Rx) (xc yc' : List Value) (s : Str) (w : World) (ht : Tab w) (hvx : RxV w Any xc x) (hmx : x.mem) (hvy : RxV w Any yc' y) (hmy : y.mem) (hs : s.length ≤ maxLen) :
    Calls Tryd.prog 8 #[.agg xc.toArray, .agg yc'.toArray, .string ⟨(s).toArray⟩] w fun e w' => e = .returned (.bool true) ∧ Below w.heap.size w w' := by
  unfold maxLen at hs
  obtain ⟨L1, m1, T1, hF1, _, hm1, ht1⟩ := fac_of (mx := 80) (by omega) hmx xc
  obtain ⟨L2, m2, T2, hF2, _, hm2, ht2⟩ := fac_of (mx := 80) (by omega) hmy yc'
  have HUNY : Hid (m1 = true → m2 = true → T1 = T2 → T1.length ≤ 256 → x = y) := Lib.hid (fun a b c d => unlike (hm1.trans a) (hm2.trans b) (by rw [ht1, ht2]; exact c) (by rw [ht1]; exact d))
  have HRZ : Hid (s.length ≤ 80 → ∃ (q : Int) (z : Rx), z.small ∧ mayB z = true ∧ (∀ w, Calls Tryd.prog 19 #[.string ⟨(s).toArray⟩] w fun e w' => UnRead q z w e w') ∧ ∀ cc, UnShow z cc z.tell 0) := Lib.hid (fun h => read_un s (by omega))
  have HUNZ0 : Hid (∀ z : Rx, mayB z = true → m1 = true → T1 = z.tell → T1.length ≤ 256 → x = z) := Lib.hid (fun z hz a c d => unlike (hm1.trans a) hz (by rw [ht1]; exact c) (by rw [ht1]; exact d))
  have HF1 := Lib.hid hF1
  have HF2 := Lib.hid hF2
  have HAW := Lib.hid awake_any
  clear hF1 hF2 hm1 hm2 ht1 ht2 hmx hmy
  obtain ⟨X, hX⟩ : ∃ X, X = x := ⟨_, rfl⟩
  obtain ⟨Y, hY⟩ : ∃ Y, Y = y := ⟨_, rfl⟩
  have HX := Lib.hid hX
  have HY := Lib.hid hY
  clear hX hY
  rw [← HX.out] at HUNZ0 HF1 hvx
  rw [← HY.out] at HF2 hvy
  rw [← HX.out, ← HY.out] at HUNY
  obtain ⟨k, c, ng, rs, lo, hi, lz, ks⟩ := x
  obtain ⟨yk, yc, yn, yr, yl, yh, yz, ys⟩ := y
  obtain ⟨ra, rc, ka, kc, rfl, hrs, hx⟩ := (show RxV w Any xc (.mk k c ng rs lo hi lz ks) by rw [← HX.out]; exact hvx).open_
  obtain ⟨ya, yrc, yka, ykc, rfl, hyr, hy⟩ := (show RxV w Any yc' (.mk yk yc yn yr yl yh yz ys) by rw [← HY.out]; exact hvy).open_
  obtain ⟨w0, hw0⟩ : ∃ w0, w0 = (w.alloc (.cells #[.int .i64 k, .string ⟨(c).toArray⟩, .bool ng, .slice ra rs.length rc, .int .i64 lo, .int .i64 hi, .bool lz, .slice ka ks.length kc] 25)).alloc (.cells #[.int .i64 yk, .string ⟨(yc).toArray⟩, .bool yn, .slice ya yr.length yrc, .int .i64 yl, .int .i64 yh, .bool yz, .slice yka ys.length ykc] 25) := ⟨_, rfl⟩
  have hb0 : Below w.heap.size w w0 := by rw [hw0]; exact ((Below.refl _ _).alloc (Nat.le_refl _) _).alloc (by simp) _
  have hbx0 : w0.heap[w.heap.size]? = some (.cells #[.int .i64 k, .string ⟨(c).toArray⟩, .bool ng, .slice ra rs.length rc, .int .i64 lo, .int .i64 hi, .bool lz, .slice ka ks.length kc] 25 (0, 0)) := by
    rw [hw0, Below.heap_alloc _ _ _ (by simp)]; exact heap_alloc_new w _
  have hby0 : w0.heap[w.heap.size + 1]? = some (.cells #[.int .i64 yk, .string ⟨(yc).toArray⟩, .bool yn, .slice ya yr.length yrc, .int .i64 yl, .int .i64 yh, .bool yz, .slice yka ys.length ykc] 25 (0, 0)) := by
    rw [hw0]
    have := heap_alloc_new (w.alloc (.cells #[.int .i64 k, .string ⟨(c).toArray⟩, .bool ng, .slice ra rs.length rc, .int .i64 lo, .int .i64 hi, .bool lz, .slice ka ks.length kc] 25)) (.cells #[.int .i64 yk, .string ⟨(yc).toArray⟩, .bool yn, .slice ya yr.length yrc, .int .i64 yl, .int .i64 yh, .bool yz, .slice yka ys.length ykc] 25)
    simpa using this
  have HVX0 := Lib.hid (hvx.later hb0)
  have HVY0 := Lib.hid (hvy.later hb0)
  have HT0 := Lib.hid (ht.keep hb0)
  have HBX0 := Lib.hid hbx0
  have HBY0 := Lib.hid hby0
  have HW0 := Lib.hid hw0
  have HC1 := Lib.hid (HF1.out.rx _ HVX0.out)
  rw [hw0] at HC1
  clear hvx hvy hrs hx hyr hy ht hbx0 hby0 hw0
  unfold rxc at HVX0 HVY0 HC1 HF1 HF2 ⊢
  go_enter Tryd.func8, Tryd.ntmps8
  go_wp2_with (go_at_call 9; refine HC1.out.mono ?_)
  first | rintro e w1 rfl hb1 | rintro e w1 ⟨rfl, hb1⟩
  rw [← HW0.out] at hb1
  replace hb1 : Below w0.heap.size w0 w1 := hb1.mono (by rw [HW0.out]; simp)
  clear HC1
  by_cases hn1 : L1 < 0
  · skip
    go_wp2_with (go_at_call 10; refine (HAW.out _ (HT0.out.keep hb1)).mono ?_; rintro e w9 ⟨rfl, hb9⟩)
    go_ret
    exact ⟨rfl, bel2 (bel2 hb0 hb1) hb9⟩
  have hd1 : decide (L1 < 0) = false := decide_eq_false hn1
  obtain ⟨g0, g1, g2, g3, g4, g5, g6, g7, g8⟩ := bx_cells ((hb1.block _ (heap_lt HBY0.out)).trans HBY0.out)
  have HVY := Lib.hid (HVY0.out.later hb1)
  go_wp2_with (go_at_call 9; refine (HF2.out.rx _ HVY.out).mono ?_)
  first | rintro e w2 rfl hb2' | rintro e w2 ⟨rfl, hb2'⟩
  clear g0 g1 g2 g3 g4 g5 g6 g7 g8 HVY
  have hb2 := bel2 hb1 hb2'
  clear hb2'
  by_cases hn2 : L2 < 0
  · skip
    go_wp2_with (go_at_call 10; refine (HAW.out _ (HT0.out.keep hb2)).mono ?_; rintro e w9 ⟨rfl, hb9⟩)
    go_ret
    exact ⟨rfl, bel2 (bel2 hb0 hb2) hb9⟩
  have hd2 : decide (L2 < 0) = false := decide_eq_false hn2
  by_cases hls : s.length ≤ 80
  case neg =>
    have dls : decide ((80 : Int) < (s.length : Int)) = true := decide_eq_true (by omega)
    go_wp2_with (go_at_call 10; refine (HAW.out _ (HT0.out.keep hb2)).mono ?_; rintro e w9 ⟨rfl, hb9⟩)
    go_ret
    exact ⟨rfl, bel2 (bel2 hb0 hb2) hb9⟩
  have dls : decide ((80 : Int) < (s.length : Int)) = false := decide_eq_false (by omega)
  obtain ⟨A, F, hA, hAF⟩ := unshow_of HF1.out (by omega)
  obtain ⟨B, G, hB, hBG⟩ := unshow_of HF2.out (by omega)
  obtain ⟨q, z, hzs, hzm, hrd, hsh⟩ := HRZ.out hls
  have HA := Lib.hid hA
  have HB := Lib.hid hB
  have HAF := Lib.hid hAF
  have HBG := Lib.hid hBG
  have HRD := Lib.hid hrd
  obtain ⟨C, hC⟩ : ∃ C, z.tell = C := ⟨_, rfl⟩
  rw [hC] at hsh
  have HSH := Lib.hid hsh
  have HCT := Lib.hid hC
  have HUNZ := Lib.hid (HUNZ0.out z hzm)
  have HSX := Lib.hid (HF1.out.sm (by omega))
  clear hA hB hAF hBG hrd hsh hC hzs hzm HUNZ0 HRZ
  go_wp2_with (go_at_call 19; refine (HRD.out _).mono ?_)
  rintro e w3 ⟨hb3', zc, rfl, hvz⟩
  obtain ⟨zk, zc0, zn, zr, zl, zh, zz, zs, za, zrc, zka, zkc, hzx, rfl⟩ := hvz.box
  have HVZ3 := Lib.hid hvz
  clear hvz hzx
  unfold rxc at HVZ3 ⊢
  obtain ⟨wz, hwz⟩ : ∃ wz, wz = w3.alloc (.cells #[.int .i64 zk, .string ⟨(zc0).toArray⟩, .bool zn, .slice za zr.length zrc, .int .i64 zl, .int .i64 zh, .bool zz, .slice zka zs.length zkc] 25) := ⟨_, rfl⟩
  have hz3 : Below w3.heap.size w3 wz := by rw [hwz]; exact (Below.refl _ _).alloc (Nat.le_refl _) _
  have hbz : wz.heap[w3.heap.size]? = some (.cells #[.int .i64 zk, .string ⟨(zc0).toArray⟩, .bool zn, .slice za zr.length zrc, .int .i64 zl, .int .i64 zh, .bool zz, .slice zka zs.length zkc] 25 (0, 0)) := by rw [hwz]; exact heap_alloc_new w3 _
  have HBZ := Lib.hid hbz
  have HVZ0 := Lib.hid (HVZ3.out.later hz3)
  have hb3 := bel2 (bel2 hb2 hb3') hz3
  clear hbz hz3 hb3' HVZ3
  subst hwz
  obtain ⟨e0, e1, e2, e3, e4, e5, e6, e7, e8⟩ := bx_cells ((hb3.block _ (heap_lt HBX0.out)).trans HBX0.out)
  have HVX := Lib.hid (HVX0.out.later hb3)
  go_wp2_with (go_at_call 11; refine (HA.out _ HVX.out (HT0.out.keep hb3)).mono ?_)
  first | rintro e w4 rfl hb4' | rintro e w4 ⟨rfl, hb4'⟩
  clear e0 e1 e2 e3 e4 e5 e6 e7 e8 HVX
  have hb4 := bel2 hb3 hb4'
  obtain ⟨g0, g1, g2, g3, g4, g5, g6, g7, g8⟩ := bx_cells ((hb4.block _ (heap_lt HBY0.out)).trans HBY0.out)
  have HVY := Lib.hid (HVY0.out.later hb4)
  go_wp2_with (go_at_call 11; refine (HB.out _ HVY.out (HT0.out.keep hb4)).mono ?_)
  first | rintro e w5 rfl hb5' | rintro e w5 ⟨rfl, hb5'⟩
  clear g0 g1 g2 g3 g4 g5 g6 g7 g8 HVY
  have hb5 := bel2 hb4 hb5'
  have hz5 := bel2 hb4' hb5'
  clear hb4 hb4' hb5'
  obtain ⟨z0, z1, z2, z3, z4, z5, z6, z7, z8⟩ := bx_cells ((hz5.block _ (heap_lt HBZ.out)).trans HBZ.out)
  have HVZ := Lib.hid (HVZ0.out.later hz5)
  go_wp2_with (go_at_call 11; refine (HSH.out _ _ HVZ.out (HT0.out.keep hb5)).mono ?_)
  first | rintro e w6 rfl hb6' | rintro e w6 ⟨rfl, hb6'⟩
  clear z0 z1 z2 z3 z4 z5 z6 z7 z8 HVZ
  have hb6 := bel2 hb5 hb6'
  have hz6 := bel2 hz5 hb6'
  clear hb5 hz5 hb6'
  rcases HAF.out with ⟨rfl, hat, hm1⟩ | ⟨rfl, hat⟩
  · have HAT := Lib.hid hat
    have HM1 := Lib.hid hm1
    clear hat hm1
    rcases HBG.out with ⟨rfl, hbt, hm2⟩ | ⟨rfl, hbt⟩
    · by_cases hab : A = B
      · have b1 : (A == B) = true := beq_iff_eq.2 hab
        by_cases hl0 : A.length ≤ 256
        · have dl0 : decide ((A.length : Int) ≤ 256) = true := decide_eq_true (by omega)
          have hxy := HUNY.out HM1.out hm2 (HAT.out.symm.trans (hab.trans hbt)) (by rw [← HAT.out]; exact hl0)
          have HXY := Lib.hid hxy
          clear hxy hl0 hab hbt hm2
          obtain ⟨e0, e1, e2, e3, e4, e5, e6, e7, e8⟩ := bx_cells ((hb6.block _ (heap_lt HBX0.out)).trans HBX0.out)
          have HVX := Lib.hid (HVX0.out.later hb6)
          obtain ⟨g0, g1, g2, g3, g4, g5, g6, g7, g8⟩ := bx_cells ((hb6.block _ (heap_lt HBY0.out)).trans HBY0.out)
          have HVY := Lib.hid (HVY0.out.later hb6)
          rw [← HXY.out] at HVY
          go_wp2_with (go_at_call 21; refine (Same_eq _ HSX.out HVX.out HVY.out).mono ?_)
          first | rintro e w7 rfl hb7' | rintro e w7 ⟨rfl, hb7'⟩
          have hb7 := bel2 hb6 hb7'
          have hz7 := bel2 hz6 hb7'
          clear e0 e1 e2 e3 e4 e5 e6 e7 e8 HVX
          clear g0 g1 g2 g3 g4 g5 g6 g7 g8 HVY
          clear hb7' b1 dl0
          by_cases hq : q = 0
          · have q1 : (q == 0) = true := beq_iff_eq.2 hq
            have q2 : (q != 0) = false := by simp [bne, q1]
            clear hq
            by_cases hac : A = C
            · have a1 : (A == C) = true := beq_iff_eq.2 hac
              have HAC := Lib.hid hac
              clear hac
              by_cases hl : A.length ≤ 256
              · have dl : decide ((A.length : Int) ≤ 256) = true := decide_eq_true (by omega)
                have hxz := HUNZ.out HM1.out (HAT.out.symm.trans (HAC.out.trans HCT.out.symm)) (by rw [← HAT.out]; exact hl)
                have HXZ := Lib.hid hxz
                clear hxz hl
                obtain ⟨e0, e1, e2, e3, e4, e5, e6, e7, e8⟩ := bx_cells ((hb7.block _ (heap_lt HBX0.out)).trans HBX0.out)
                have HVX := Lib.hid (HVX0.out.later hb7)
                obtain ⟨z0, z1, z2, z3, z4, z5, z6, z7, z8⟩ := bx_cells ((hz7.block _ (heap_lt HBZ.out)).trans HBZ.out)
                have HVZ := Lib.hid (HVZ0.out.later hz7)
                rw [← HXZ.out] at HVZ
                go_wp2_with (go_at_call 21; refine (Same_eq _ HSX.out HVX.out HVZ.out).mono ?_)
                first | rintro e wt rfl hbt | rintro e wt ⟨rfl, hbt⟩
                have hut := bel2 hb7 hbt
                clear e0 e1 e2 e3 e4 e5 e6 e7 e8 HVX
                clear z0 z1 z2 z3 z4 z5 z6 z7 z8 HVZ
                go_wp2_with (go_at_call 10; refine (HAW.out _ (HT0.out.keep hut)).mono ?_; rintro e w9 ⟨rfl, hb9⟩)
                go_ret
                exact ⟨rfl, bel2 (bel2 hb0 hut) hb9⟩
              · have dl : decide ((A.length : Int) ≤ 256) = false := decide_eq_false (by omega)
                go_wp2_with (go_at_call 10; refine (HAW.out _ (HT0.out.keep hb7)).mono ?_; rintro e w9 ⟨rfl, hb9⟩)
                go_ret
                exact ⟨rfl, bel2 (bel2 hb0 hb7) hb9⟩
            · have a1 : (A == C) = false := beq_eq_false_iff_ne.2 hac
              clear hac
              go_wp2_with (go_at_call 10; refine (HAW.out _ (HT0.out.keep hb7)).mono ?_; rintro e w9 ⟨rfl, hb9⟩)
              go_ret
              exact ⟨rfl, bel2 (bel2 hb0 hb7) hb9⟩
          · have q1 : (q == 0) = false := beq_eq_false_iff_ne.2 hq
            have q2 : (q != 0) = true := by simp [bne, q1]
            clear hq
            go_wp2_with (go_at_call 10; refine (HAW.out _ (HT0.out.keep hb7)).mono ?_; rintro e w9 ⟨rfl, hb9⟩)
            go_ret
            exact ⟨rfl, bel2 (bel2 hb0 hb7) hb9⟩
        · have dl0 : decide ((A.length : Int) ≤ 256) = false := decide_eq_false (by omega)
          clear hab hbt hm2 hl0
          by_cases hq : q = 0
          · have q1 : (q == 0) = true := beq_iff_eq.2 hq
            have q2 : (q != 0) = false := by simp [bne, q1]
            clear hq
            by_cases hac : A = C
            · have a1 : (A == C) = true := beq_iff_eq.2 hac
              clear hac
              go_wp2_with (go_at_call 10; refine (HAW.out _ (HT0.out.keep hb6)).mono ?_; rintro e w9 ⟨rfl, hb9⟩)
              go_ret
              exact ⟨rfl, bel2 (bel2 hb0 hb6) hb9⟩
            · have a1 : (A == C) = false := beq_eq_false_iff_ne.2 hac
              clear hac
              go_wp2_with (go_at_call 10; refine (HAW.out _ (HT0.out.keep hb6)).mono ?_; rintro e w9 ⟨rfl, hb9⟩)
              go_ret
              exact ⟨rfl, bel2 (bel2 hb0 hb6) hb9⟩
          · have q1 : (q == 0) = false := beq_eq_false_iff_ne.2 hq
            have q2 : (q != 0) = true := by simp [bne, q1]
            clear hq
            go_wp2_with (go_at_call 10; refine (HAW.out _ (HT0.out.keep hb6)).mono ?_; rintro e w9 ⟨rfl, hb9⟩)
            go_ret
            exact ⟨rfl, bel2 (bel2 hb0 hb6) hb9⟩
      · have b1 : (A == B) = false := beq_eq_false_iff_ne.2 hab
        clear hab hbt hm2
        by_cases hq : q = 0
        · have q1 : (q == 0) = true := beq_iff_eq.2 hq
          have q2 : (q != 0) = false := by simp [bne, q1]
          clear hq
          by_cases hac : A = C
          · have a1 : (A == C) = true := beq_iff_eq.2 hac
            have HAC := Lib.hid hac
            clear hac
            by_cases hl : A.length ≤ 256
            · have dl : decide ((A.length : Int) ≤ 256) = true := decide_eq_true (by omega)
              have hxz := HUNZ.out HM1.out (HAT.out.symm.trans (HAC.out.trans HCT.out.symm)) (by rw [← HAT.out]; exact hl)
              have HXZ := Lib.hid hxz
              clear hxz hl
              obtain ⟨e0, e1, e2, e3, e4, e5, e6, e7, e8⟩ := bx_cells ((hb6.block _ (heap_lt HBX0.out)).trans HBX0.out)
              have HVX := Lib.hid (HVX0.out.later hb6)
              obtain ⟨z0, z1, z2, z3, z4, z5, z6, z7, z8⟩ := bx_cells ((hz6.block _ (heap_lt HBZ.out)).trans HBZ.out)
              have HVZ := Lib.hid (HVZ0.out.later hz6)
              rw [← HXZ.out] at HVZ
              go_wp2_with (go_at_call 21; refine (Same_eq _ HSX.out HVX.out HVZ.out).mono ?_)
              first | rintro e wt rfl hbt | rintro e wt ⟨rfl, hbt⟩
              have hut := bel2 hb6 hbt
              clear e0 e1 e2 e3 e4 e5 e6 e7 e8 HVX
              clear z0 z1 z2 z3 z4 z5 z6 z7 z8 HVZ
              go_wp2_with (go_at_call 10; refine (HAW.out _ (HT0.out.keep hut)).mono ?_; rintro e w9 ⟨rfl, hb9⟩)
              go_ret
              exact ⟨rfl, bel2 (bel2 hb0 hut) hb9⟩
            · have dl : decide ((A.length : Int) ≤ 256) = false := decide_eq_false (by omega)
              go_wp2_with (go_at_call 10; refine (HAW.out _ (HT0.out.keep hb6)).mono ?_; rintro e w9 ⟨rfl, hb9⟩)
              go_ret
              exact ⟨rfl, bel2 (bel2 hb0 hb6) hb9⟩
          · have a1 : (A == C) = false := beq_eq_false_iff_ne.2 hac
            clear hac
            go_wp2_with (go_at_call 10; refine (HAW.out _ (HT0.out.keep hb6)).mono ?_; rintro e w9 ⟨rfl, hb9⟩)
            go_ret
            exact ⟨rfl, bel2 (bel2 hb0 hb6) hb9⟩
        · have q1 : (q == 0) = false := beq_eq_false_iff_ne.2 hq
          have q2 : (q != 0) = true := by simp [bne, q1]
          clear hq
          go_wp2_with (go_at_call 10; refine (HAW.out _ (HT0.out.keep hb6)).mono ?_; rintro e w9 ⟨rfl, hb9⟩)
          go_ret
          exact ⟨rfl, bel2 (bel2 hb0 hb6) hb9⟩
    · clear hbt
      by_cases hq : q = 0
      · have q1 : (q == 0) = true := beq_iff_eq.2 hq
        have q2 : (q != 0) = false := by simp [bne, q1]
        clear hq
        by_cases hac : A = C
        · have a1 : (A == C) = true := beq_iff_eq.2 hac
          have HAC := Lib.hid hac
          clear hac
          by_cases hl : A.length ≤ 256
          · have dl : decide ((A.length : Int) ≤ 256) = true := decide_eq_true (by omega)
            have hxz := HUNZ.out HM1.out (HAT.out.symm.trans (HAC.out.trans HCT.out.symm)) (by rw [← HAT.out]; exact hl)
            have HXZ := Lib.hid hxz
            clear hxz hl
            obtain ⟨e0, e1, e2, e3, e4, e5, e6, e7, e8⟩ := bx_cells ((hb6.block _ (heap_lt HBX0.out)).trans HBX0.out)
            have HVX := Lib.hid (HVX0.out.later hb6)
            obtain ⟨z0, z1, z2, z3, z4, z5, z6, z7, z8⟩ := bx_cells ((hz6.block _ (heap_lt HBZ.out)).trans HBZ.out)
            have HVZ := Lib.hid (HVZ0.out.later hz6)
            rw [← HXZ.out] at HVZ
            go_wp2_with (go_at_call 21; refine (Same_eq _ HSX.out HVX.out HVZ.out).mono ?_)
            first | rintro e wt rfl hbt | rintro e wt ⟨rfl, hbt⟩
            have hut := bel2 hb6 hbt
            clear e0 e1 e2 e3 e4 e5 e6 e7 e8 HVX
            clear z0 z1 z2 z3 z4 z5 z6 z7 z8 HVZ
            go_wp2_with (go_at_call 10; refine (HAW.out _ (HT0.out.keep hut)).mono ?_; rintro e w9 ⟨rfl, hb9⟩)
            go_ret
            exact ⟨rfl, bel2 (bel2 hb0 hut) hb9⟩
          · have dl : decide ((A.length : Int) ≤ 256) = false := decide_eq_false (by omega)
            go_wp2_with (go_at_call 10; refine (HAW.out _ (HT0.out.keep hb6)).mono ?_; rintro e w9 ⟨rfl, hb9⟩)
            go_ret
            exact ⟨rfl, bel2 (bel2 hb0 hb6) hb9⟩
        · have a1 : (A == C) = false := beq_eq_false_iff_ne.2 hac
          clear hac
          go_wp2_with (go_at_call 10; refine (HAW.out _ (HT0.out.keep hb6)).mono ?_; rintro e w9 ⟨rfl, hb9⟩)
          go_ret
          exact ⟨rfl, bel2 (bel2 hb0 hb6) hb9⟩
      · have q1 : (q == 0) = false := beq_eq_false_iff_ne.2 hq
        have q2 : (q != 0) = true := by simp [bne, q1]
        clear hq
        go_wp2_with (go_at_call 10; refine (HAW.out _ (HT0.out.keep hb6)).mono ?_; rintro e w9 ⟨rfl, hb9⟩)
        go_ret
        exact ⟨rfl, bel2 (bel2 hb0 hb6) hb9⟩
  · clear hat
    by_cases hq : q = 0
    · have q1 : (q == 0) = true := beq_iff_eq.2 hq
      have q2 : (q != 0) = false := by simp [bne, q1]
      go_wp2_with (go_at_call 10; refine (HAW.out _ (HT0.out.keep hb6)).mono ?_; rintro e w9 ⟨rfl, hb9⟩)
      go_ret
      exact ⟨rfl, bel2 (bel2 hb0 hb6) hb9⟩
    · have q1 : (q == 0) = false := beq_eq_false_iff_ne.2 hq
      have q2 : (q != 0) = true := by simp [bne, q1]
      go_wp2_with (go_at_call 10; refine (HAW.out _ (HT0.out.keep hb6)).mono ?_; rintro e w9 ⟨rfl, hb9⟩)
      go_ret
      exact ⟨rfl, bel2 (bel2 hb0 hb6) hb9⟩
end Go.Proofs.YtpggnfpjjppbmaaDoor
