/- walk of the statements of chapter 15: ShowParts -/
import Derived.Test.YtpggnfpjjppbmaaDoorLawShow
import Derived.Test.YtpggnfpjjppbmaaDoorPartM
set_option maxRecDepth 100000
namespace Go.Proofs.YtpggnfpjjppbmaaDoor
open Go.RowKit
theorem Show_of {S : Nat → Prop} {z : Rx} (h : z.wf = true) (hw : z.wt ≤ 500) (hd : z.deep ≤ 16) {cc : List Value} {w : World} (hv : RxV w S cc z) (ht : Tab w) :
    Calls Tryd.prog 11 #[.agg cc.toArray] w fun e w' => e = .returned (.tuple #[.string ⟨(z.tell).toArray⟩, .int .i64 0]) ∧ Below w.heap.size w w' := by
  have hp := parts_wt _ z (Nat.le_refl _)
  have hl := tell_len _ z (Nat.le_refl _) h
  exact Show_yes S z cc w (by omega) (small_wt _ z (Nat.le_refl _) (by omega)) hv ht (may_of h hw hd) (by omega)
theorem LawRx_eq {S : Nat → Prop} {x : Rx} {cc : List Value} {n L : Int} (hL : x.left n = L) (hm : x.mem) (h0 : -1000 ≤ n) (h1 : n ≤ 1000) {w : World} (hv : RxV w S cc x) :
    Calls Tryd.prog 9 #[.agg cc.toArray, .int .i64 n] w fun e w' => e = .returned (.int .i64 L) ∧ Below w.heap.size w w' := by
  subst hL; exact LawRx_any S _ x (Nat.le_refl _) hm cc w n hv h0 h1
theorem two_lit {W : World} {x y : Rx} {k : Int} {c : Str} {ng : Bool} {ra : Option Addr} {rn rc : Nat} {lo hi : Int} {lz : Bool} {ka : Option Addr} {kn kc : Nat} {yk : Int} {yc : Str} {yn : Bool} {ya : Option Addr} {yrn yrc : Nat} {yl yh : Int} {yz : Bool} {yka : Option Addr} {ykn ykc : Nat}
    (hx : RxV W Any [.int .i64 k, .string ⟨(c).toArray⟩, .bool ng, .slice ra rn rc, .int .i64 lo, .int .i64 hi, .bool lz, .slice ka kn kc] x) (hy : RxV W Any [.int .i64 yk, .string ⟨(yc).toArray⟩, .bool yn, .slice ya yrn yrc, .int .i64 yl, .int .i64 yh, .bool yz, .slice yka ykn ykc] y) :
    RxSl (W.alloc (.cells #[.int .i64 k, .string ⟨(c).toArray⟩, .bool ng, .slice ra rn rc, .int .i64 lo, .int .i64 hi, .bool lz, .slice ka kn kc, .int .i64 yk, .string ⟨(yc).toArray⟩, .bool yn, .slice ya yrn yrc, .int .i64 yl, .int .i64 yh, .bool yz, .slice yka ykn ykc] 25)) Any (some ⟨W.heap.size, 0, none⟩) 2 [x, y] :=
  have hb := fun o : Obj => (Below.refl W.heap.size W).alloc (Nat.le_refl _) o
  ⟨[_, _], (Sl.lit (n := 2) (sz := 8) (heap_alloc_new W _) rfl).slAny, .cons (hx.later (hb _)) (.cons (hy.later (hb _)) .nil)⟩
theorem one_lit {W : World} {x : Rx} {k : Int} {c : Str} {ng : Bool} {ra : Option Addr} {rn rc : Nat} {lo hi : Int} {lz : Bool} {ka : Option Addr} {kn kc : Nat}
    (hx : RxV W Any [.int .i64 k, .string ⟨(c).toArray⟩, .bool ng, .slice ra rn rc, .int .i64 lo, .int .i64 hi, .bool lz, .slice ka kn kc] x) :
    RxSl (W.alloc (.cells #[.int .i64 k, .string ⟨(c).toArray⟩, .bool ng, .slice ra rn rc, .int .i64 lo, .int .i64 hi, .bool lz, .slice ka kn kc] 25)) Any (some ⟨W.heap.size, 0, none⟩) 1 [x] :=
  have hb := fun o : Obj => (Below.refl W.heap.size W).alloc (Nat.le_refl _) o
  ⟨[_], (Sl.lit (n := 1) (sz := 8) (heap_alloc_new W _) rfl).slAny, .cons (hx.later (hb _)) .nil⟩
theorem grp_v {W : World} {x : Rx} {k : Int} {a : Option Addr} {c : Nat} (h : RxSl W Any a 1 [x]) : RxV W Any [.int .i64 k, .string ⟨([]).toArray⟩, .bool false, .slice none 0 0, .int .i64 0, .int .i64 0, .bool false, .slice a 1 c] (grp k x) :=
  RxV.close (rs := []) (ks := [x]) (SlS.none_ _ _ _ _) h
theorem rep1_v {W : World} {x : Rx} {a : Option Addr} {c : Nat} (h : RxSl W Any a 1 [grp 6 x]) : RxV W Any [.int .i64 7, .string ⟨([]).toArray⟩, .bool false, .slice none 0 0, .int .i64 0, .int .i64 1, .bool true, .slice a 1 c] (rep1 x) :=
  RxV.close (rs := []) (ks := [grp 6 x]) (SlS.none_ _ _ _ _) h
set_option maxHeartbeats 800000 in
theorem ShowParts_walk (x y : Rx) (xc yc' : List Value) (w : World) (ht : Tab w) (hvx : RxV w Any xc x) (hmx : x.mem) (hvy : RxV w Any yc' y) (hmy : y.mem) :
    Calls Tryd.prog 4 #[.agg xc.toArray, .agg yc'.toArray] w fun e w' => e = .returned (.bool true) ∧ Below w.heap.size w w' := by
  obtain ⟨L1, hL1⟩ : ∃ L, x.left 60 = L := ⟨_, rfl⟩
  obtain ⟨L2, hL2⟩ : ∃ L, y.left 60 = L := ⟨_, rfl⟩
  have HAW := Lib.hid awake_any
  have HL1 := Lib.hid hL1
  have HL2 := Lib.hid hL2
  have HMX := Lib.hid hmx
  have HMY := Lib.hid hmy
  obtain ⟨m1, hm1⟩ : ∃ m, mayB x = m := ⟨_, rfl⟩
  obtain ⟨m2, hm2⟩ : ∃ m, mayB y = m := ⟨_, rfl⟩
  have HM1 := Lib.hid hm1
  have HM2 := Lib.hid hm2
  obtain ⟨tx, htx⟩ : ∃ t, x.tell = t := ⟨_, rfl⟩
  obtain ⟨ty, hty⟩ : ∃ t, y.tell = t := ⟨_, rfl⟩
  have HTX := Lib.hid htx
  have HTY := Lib.hid hty
  obtain ⟨dx, hdx⟩ : ∃ d, x.deep = d := ⟨_, rfl⟩
  have HDX := Lib.hid hdx
  have HKX : Hid (∀ k, x.kind = k → x.kind = k) := Lib.hid (fun _ h => h)
  clear hL1 hL2 hmx hmy hm1 hm2 htx hty hdx
  obtain ⟨X, hX⟩ : ∃ X, X = x := ⟨_, rfl⟩
  obtain ⟨Y, hY⟩ : ∃ Y, Y = y := ⟨_, rfl⟩
  have HX := Lib.hid hX
  have HY := Lib.hid hY
  clear hX hY
  obtain ⟨k, c, ng, rs, lo, hi, lz, ks⟩ := x
  obtain ⟨yk, yc, yn, yr, yl, yh, yz, ys⟩ := y
  rw [← HX.out] at HL1 HMX HM1 HTX HDX hvx
  rw [← HY.out] at HL2 HMY HM2 HTY hvy
  obtain ⟨ra, rc, ka, kc, rfl, hrs, hx⟩ := (show RxV w Any xc (.mk k c ng rs lo hi lz ks) by rw [← HX.out]; exact hvx).open_
  obtain ⟨ya, yrc, yka, ykc, rfl, hyr, hy⟩ := (show RxV w Any yc' (.mk yk yc yn yr yl yh yz ys) by rw [← HY.out]; exact hvy).open_
  obtain ⟨w0, hw0⟩ : ∃ w0, w0 = (w.alloc (.cells #[.int .i64 k, .string ⟨(c).toArray⟩, .bool ng, .slice ra rs.length rc, .int .i64 lo, .int .i64 hi, .bool lz, .slice ka ks.length kc] 25)).alloc (.cells #[.int .i64 yk, .string ⟨(yc).toArray⟩, .bool yn, .slice ya yr.length yrc, .int .i64 yl, .int .i64 yh, .bool yz, .slice yka ys.length ykc] 25) := ⟨_, rfl⟩
  have hb0 : Below w.heap.size w w0 := by rw [hw0]; exact ((Below.refl _ _).alloc (Nat.le_refl _) _).alloc (by simp) _
  have hbx0 : w0.heap[w.heap.size]? = some (.cells #[.int .i64 k, .string ⟨(c).toArray⟩, .bool ng, .slice ra rs.length rc, .int .i64 lo, .int .i64 hi, .bool lz, .slice ka ks.length kc] 25 (0, 0)) := by
    rw [hw0, Below.heap_alloc _ _ _ (by simp)]; exact heap_alloc_new w _
  have hby0 : w0.heap[w.heap.size + 1]? = some (.cells #[.int .i64 yk, .string ⟨(yc).toArray⟩, .bool yn, .slice ya yr.length yrc, .int .i64 yl, .int .i64 yh, .bool yz, .slice yka ys.length ykc] 25 (0, 0)) := by
    rw [hw0]
    have := heap_alloc_new (w.alloc (.cells #[.int .i64 k, .string ⟨(c).toArray⟩, .bool ng, .slice ra rs.length rc, .int .i64 lo, .int .i64 hi, .bool lz, .slice ka ks.length kc] 25)) (.cells #[.int .i64 yk, .string ⟨(yc).toArray⟩, .bool yn, .slice ya yr.length yrc, .int .i64 yl, .int .i64 yh, .bool yz, .slice yka ys.length ykc] 25)
    simpa using this
  have HVX0 := Lib.hid (hvx.later hb0)
  have HVY0 := Lib.hid (hvy.later hb0)
  have HT0 := Lib.hid (ht.keep hb0)
  have HBX0 := Lib.hid hbx0
  have HBY0 := Lib.hid hby0
  have HW0 := Lib.hid hw0
  have HC1 := Lib.hid (LawRx_eq HL1.out HMX.out (by decide) (by decide) HVX0.out)
  rw [hw0] at HC1
  clear hvx hvy hrs hx hyr hy ht hbx0 hby0 hw0 HKX
  unfold rxc at HVX0 HVY0 HC1 ⊢
  go_enter Tryd.func4, Tryd.ntmps4
  go_wp2_with (go_at_call 9; refine HC1.out.mono ?_)
  first | rintro e w1 rfl hb1 | rintro e w1 ⟨rfl, hb1⟩
  rw [← HW0.out] at hb1
  replace hb1 : Below w0.heap.size w0 w1 := hb1.mono (by rw [HW0.out]; simp)
  by_cases hn1 : L1 < 0
  · skip
    go_wp2_with (go_at_call 10; refine (HAW.out _ (HT0.out.keep hb1)).mono ?_; rintro e wz ⟨rfl, hbz⟩)
    go_ret
    exact ⟨rfl, bel2 (bel2 hb0 hb1) hbz⟩
  have hd1 : decide (L1 < 0) = false := decide_eq_false hn1
  obtain ⟨e0, e1, e2, e3, e4, e5, e6, e7, e8⟩ := bx_cells ((hb1.block _ (heap_lt HBX0.out)).trans HBX0.out)
  obtain ⟨g0, g1, g2, g3, g4, g5, g6, g7, g8⟩ := bx_cells ((hb1.block _ (heap_lt HBY0.out)).trans HBY0.out)
  have HVX := Lib.hid (HVX0.out.later hb1)
  have HVY := Lib.hid (HVY0.out.later hb1)
  have HT := Lib.hid (HT0.out.keep hb1)
  go_wp2_with (go_at_call 9; refine (LawRx_eq HL2.out HMY.out (by decide) (by decide) HVY.out).mono ?_)
  clear e0 e1 e2 e3 e4 e5 e6 e7 e8 g0 g1 g2 g3 g4 g5 g6 g7 g8 HVX HVY HT
  first | rintro e w2 rfl hb2' | rintro e w2 ⟨rfl, hb2'⟩
  have hb2 := bel2 hb1 hb2'
  clear hb2'
  by_cases hn2 : L2 < 0
  · skip
    go_wp2_with (go_at_call 10; refine (HAW.out _ (HT0.out.keep hb2)).mono ?_; rintro e wz ⟨rfl, hbz⟩)
    go_ret
    exact ⟨rfl, bel2 (bel2 hb0 hb2) hbz⟩
  have hd2 : decide (L2 < 0) = false := decide_eq_false hn2
  have h1 := left_eq _ X 60 (Nat.le_refl _) (by rw [HL1.out]; omega)
  have h2 := left_eq _ Y 60 (Nat.le_refl _) (by rw [HL2.out]; omega)
  have hwx : X.wt ≤ 60 := by have := HL1.out; omega
  have hwy : Y.wt ≤ 60 := by have := HL2.out; omega
  have hpx := parts_wt _ X (Nat.le_refl _)
  have hpy := parts_wt _ Y (Nat.le_refl _)
  have HSX := Lib.hid (small_wt _ X (Nat.le_refl _) (by omega))
  have HSY := Lib.hid (small_wt _ Y (Nat.le_refl _) (by omega))
  clear h1 h2 hn1 hn2
  obtain ⟨e0, e1, e2, e3, e4, e5, e6, e7, e8⟩ := bx_cells ((hb2.block _ (heap_lt HBX0.out)).trans HBX0.out)
  obtain ⟨g0, g1, g2, g3, g4, g5, g6, g7, g8⟩ := bx_cells ((hb2.block _ (heap_lt HBY0.out)).trans HBY0.out)
  have HVX := Lib.hid (HVX0.out.later hb2)
  have HVY := Lib.hid (HVY0.out.later hb2)
  have HT := Lib.hid (HT0.out.keep hb2)
  go_wp2_with (go_at_call 13; refine (RxMay_any Any X _ _ (by omega) HSX.out HVX.out).mono ?_)
  clear e0 e1 e2 e3 e4 e5 e6 e7 e8 g0 g1 g2 g3 g4 g5 g6 g7 g8 HVX HVY HT
  first | rintro e w3 rfl hb3' | rintro e w3 ⟨rfl, hb3'⟩
  have hb3 := bel2 hb2 hb3'
  rw [HM1.out]
  clear hb3'
  cases m1 with
  | false =>
    go_wp2_with (go_at_call 10; refine (HAW.out _ (HT0.out.keep hb3)).mono ?_; rintro e wz ⟨rfl, hbz⟩)
    go_ret
    exact ⟨rfl, bel2 (bel2 hb0 hb3) hbz⟩
  | true =>
    obtain ⟨e0, e1, e2, e3, e4, e5, e6, e7, e8⟩ := bx_cells ((hb3.block _ (heap_lt HBX0.out)).trans HBX0.out)
    obtain ⟨g0, g1, g2, g3, g4, g5, g6, g7, g8⟩ := bx_cells ((hb3.block _ (heap_lt HBY0.out)).trans HBY0.out)
    have HVX := Lib.hid (HVX0.out.later hb3)
    have HVY := Lib.hid (HVY0.out.later hb3)
    have HT := Lib.hid (HT0.out.keep hb3)
    go_wp2_with (go_at_call 13; refine (RxMay_any Any Y _ _ (by omega) HSY.out HVY.out).mono ?_)
    clear e0 e1 e2 e3 e4 e5 e6 e7 e8 g0 g1 g2 g3 g4 g5 g6 g7 g8 HVX HVY HT
    first | rintro e w4 rfl hb4' | rintro e w4 ⟨rfl, hb4'⟩
    have hb4 := bel2 hb3 hb4'
    rw [HM2.out]
    clear hb4'
    cases m2 with
    | false =>
      go_wp2_with (go_at_call 10; refine (HAW.out _ (HT0.out.keep hb4)).mono ?_; rintro e wz ⟨rfl, hbz⟩)
      go_ret
      exact ⟨rfl, bel2 (bel2 hb0 hb4) hbz⟩
    | true =>
      have hq1 : X.wf = true ∧ X.deep ≤ 16 := by
        have h := HM1.out; simp only [mayB, okB, Bool.and_eq_true, decide_eq_true_eq] at h; exact ⟨h.1.1, by omega⟩
      have hq2 : Y.wf = true ∧ Y.deep ≤ 16 := by
        have h := HM2.out; simp only [mayB, okB, Bool.and_eq_true, decide_eq_true_eq] at h; exact ⟨h.1.1, by omega⟩
      have HWX := Lib.hid hq1.1
      have HWY := Lib.hid hq2.1
      have hdx := hq1.2
      have hdy := hq2.2
      have hlx := tell_len _ X (Nat.le_refl _) hq1.1
      have hly := tell_len _ Y (Nat.le_refl _) hq2.1
      rw [HTX.out] at hlx
      rw [HTY.out] at hly
      clear hq1 hq2
      obtain ⟨e0, e1, e2, e3, e4, e5, e6, e7, e8⟩ := bx_cells ((hb4.block _ (heap_lt HBX0.out)).trans HBX0.out)
      obtain ⟨g0, g1, g2, g3, g4, g5, g6, g7, g8⟩ := bx_cells ((hb4.block _ (heap_lt HBY0.out)).trans HBY0.out)
      have HVX := Lib.hid (HVX0.out.later hb4)
      have HVY := Lib.hid (HVY0.out.later hb4)
      have HT := Lib.hid (HT0.out.keep hb4)
      go_wp2_with (go_at_call 11; refine (Show_of HWX.out (by omega) hdx HVX.out HT.out).mono ?_)
      clear e0 e1 e2 e3 e4 e5 e6 e7 e8 g0 g1 g2 g3 g4 g5 g6 g7 g8 HVX HVY HT
      first | rintro e w5 rfl hb5' | rintro e w5 ⟨rfl, hb5'⟩
      rw [HTX.out]
      have hb5 := bel2 hb4 hb5'
      clear hb5'
      obtain ⟨e0, e1, e2, e3, e4, e5, e6, e7, e8⟩ := bx_cells ((hb5.block _ (heap_lt HBX0.out)).trans HBX0.out)
      obtain ⟨g0, g1, g2, g3, g4, g5, g6, g7, g8⟩ := bx_cells ((hb5.block _ (heap_lt HBY0.out)).trans HBY0.out)
      have HVX := Lib.hid (HVX0.out.later hb5)
      have HVY := Lib.hid (HVY0.out.later hb5)
      have HT := Lib.hid (HT0.out.keep hb5)
      go_wp2_with (go_at_call 11; refine (Show_of HWY.out (by omega) hdy HVY.out HT.out).mono ?_)
      clear e0 e1 e2 e3 e4 e5 e6 e7 e8 g0 g1 g2 g3 g4 g5 g6 g7 g8 HVX HVY HT
      first | rintro e w6 rfl hb6' | rintro e w6 ⟨rfl, hb6'⟩
      rw [HTY.out]
      have hb6 := bel2 hb5 hb6'
      clear hb6'
      obtain ⟨e0, e1, e2, e3, e4, e5, e6, e7, e8⟩ := bx_cells ((hb6.block _ (heap_lt HBX0.out)).trans HBX0.out)
      obtain ⟨g0, g1, g2, g3, g4, g5, g6, g7, g8⟩ := bx_cells ((hb6.block _ (heap_lt HBY0.out)).trans HBY0.out)
      have HVX := Lib.hid (HVX0.out.later hb6)
      have HVY := Lib.hid (HVY0.out.later hb6)
      have HT := Lib.hid (HT0.out.keep hb6)
      obtain ⟨z1, z2, z3, z4⟩ := alt_two HWX.out HWY.out
      have HZW := Lib.hid z1
      have HZT : Hid ((altR [X, Y]).tell = tx ++ 124 :: ty) := Lib.hid (by rw [z4, HTX.out, HTY.out])
      have hzw : (altR [X, Y]).wt ≤ 500 := by omega
      have hzd : (altR [X, Y]).deep ≤ 16 := by omega
      clear z1 z2 z3 z4
      have HAL := Lib.hid (Alt_any Any (some ⟨w6.heap.size, 0, none⟩) 2 [X, Y] _ (two_lit HVX.out HVY.out) (by simp only [Rx.partsL]; omega) (by simp only [Rx.smallL]; exact ⟨HSX.out, HSY.out, trivial⟩))
      go_wp2_with (go_at_call 14; refine HAL.out.mono ?_)
      clear e0 e1 e2 e3 e4 e5 e6 e7 e8 g0 g1 g2 g3 g4 g5 g6 g7 g8 HVX HVY HT
      rintro e w7 ⟨cc', rfl, hz, hb7'⟩
      have hb7 := hb6.trans ((((Below.refl w6.heap.size w6).alloc (Nat.le_refl _) (.cells #[.int .i64 k, .string ⟨(c).toArray⟩, .bool ng, .slice ra rs.length rc, .int .i64 lo, .int .i64 hi, .bool lz, .slice ka ks.length kc, .int .i64 yk, .string ⟨(yc).toArray⟩, .bool yn, .slice ya yr.length yrc, .int .i64 yl, .int .i64 yh, .bool yz, .slice yka ys.length ykc] 25)).trans (hb7'.mono (by simp))).mono hb6.size)
      have HZV := Lib.hid hz
      clear hb7' hz HAL
      go_wp2_with (go_at_call 11; refine (Show_of HZW.out hzw hzd HZV.out (HT0.out.keep hb7)).mono ?_)
      first | rintro e w8 rfl hb8' | rintro e w8 ⟨rfl, hb8'⟩
      rw [HZT.out]
      have hb8 := bel2 hb7 hb8'
      clear hb8'
      obtain ⟨e0, e1, e2, e3, e4, e5, e6, e7, e8⟩ := bx_cells ((hb8.block _ (heap_lt HBX0.out)).trans HBX0.out)
      obtain ⟨g0, g1, g2, g3, g4, g5, g6, g7, g8⟩ := bx_cells ((hb8.block _ (heap_lt HBY0.out)).trans HBY0.out)
      have HVX := Lib.hid (HVX0.out.later hb8)
      have HVY := Lib.hid (HVY0.out.later hb8)
      have HT := Lib.hid (HT0.out.keep hb8)
      by_cases hk1 : k = 1
      · have hkb : (k == 1) = true := by simpa using hk1
        have hkb' : (k != 1) = false := by simpa using hk1
        clear hk1
        go_wp2_with (go_at_call 16; refine (Deep_any Any _ X (Nat.le_refl _) (by omega) _ _ HVX.out).mono ?_)
        clear e0 e1 e2 e3 e4 e5 e6 e7 e8 g0 g1 g2 g3 g4 g5 g6 g7 g8 HVX HVY HT
        first | rintro e wd rfl hbd' | rintro e wd ⟨rfl, hbd'⟩
        rw [HDX.out]
        have hbd := bel2 hb8 hbd'
        clear hbd'
        by_cases hdd : (dx : Int) < 16
        · have hdd' : decide ((dx : Int) < 16) = true := decide_eq_true hdd
          obtain ⟨p1, p2, p3⟩ := grp_one HWX.out (k := 5) (.inl rfl)
          obtain ⟨r1, r2, r3, r4⟩ := rep1_one HWX.out
          have HPW := Lib.hid p1
          have HPT : Hid ((grp 5 X).tell = 40 :: (tx ++ [41])) := Lib.hid (by rw [grp5_tell, HTX.out])
          have HRW := Lib.hid r1
          have HRT : Hid ((rep1 X).tell = 40 :: 63 :: 58 :: (tx ++ [41, 63, 63])) := Lib.hid (by rw [r4, HTX.out])
          have hpw : (grp 5 X).wt ≤ 500 := by omega
          have hpd : (grp 5 X).deep ≤ 16 := by rw [p3, HDX.out]; omega
          have hrw : (rep1 X).wt ≤ 500 := by omega
          have hrd : (rep1 X).deep ≤ 16 := by rw [r3, HDX.out]; omega
          clear p1 p2 p3 r1 r2 r3 r4
          obtain ⟨e0, e1, e2, e3, e4, e5, e6, e7, e8⟩ := bx_cells ((hbd.block _ (heap_lt HBX0.out)).trans HBX0.out)
          obtain ⟨g0, g1, g2, g3, g4, g5, g6, g7, g8⟩ := bx_cells ((hbd.block _ (heap_lt HBY0.out)).trans HBY0.out)
          have HVX := Lib.hid (HVX0.out.later hbd)
          have HVY := Lib.hid (HVY0.out.later hbd)
          have HT := Lib.hid (HT0.out.keep hbd)
          have HG5 := Lib.hid (Show_of HPW.out hpw hpd (grp_v (c := 1) (k := 5) (one_lit HVX.out)) (HT.out.keep ((Below.refl wd.heap.size wd).alloc (Nat.le_refl _) _)))
          go_wp2_with (go_at_call 11; refine HG5.out.mono ?_)
          clear e0 e1 e2 e3 e4 e5 e6 e7 e8 g0 g1 g2 g3 g4 g5 g6 g7 g8 HVX HVY HT
          first | rintro e we rfl hbe' | rintro e we ⟨rfl, hbe'⟩
          rw [HPT.out]
          have hbe := hbd.trans ((((Below.refl wd.heap.size wd).alloc (Nat.le_refl _) (.cells #[.int .i64 k, .string ⟨(c).toArray⟩, .bool ng, .slice ra rs.length rc, .int .i64 lo, .int .i64 hi, .bool lz, .slice ka ks.length kc] 25)).trans (hbe'.mono (by simp))).mono hbd.size)
          clear hbe' HG5
          obtain ⟨e0, e1, e2, e3, e4, e5, e6, e7, e8⟩ := bx_cells ((hbe.block _ (heap_lt HBX0.out)).trans HBX0.out)
          obtain ⟨g0, g1, g2, g3, g4, g5, g6, g7, g8⟩ := bx_cells ((hbe.block _ (heap_lt HBY0.out)).trans HBY0.out)
          have HVX := Lib.hid (HVX0.out.later hbe)
          have HVY := Lib.hid (HVY0.out.later hbe)
          have HT := Lib.hid (HT0.out.keep hbe)
          have hA := (Below.refl we.heap.size we).alloc (Nat.le_refl _) (.cells #[.int .i64 k, .string ⟨(c).toArray⟩, .bool ng, .slice ra rs.length rc, .int .i64 lo, .int .i64 hi, .bool lz, .slice ka ks.length kc] 25)
          have HR7 := Lib.hid (Show_of HRW.out hrw hrd (rep1_v (c := 1) (one_lit (grp_v (c := 1) (k := 6) (one_lit HVX.out)))) ((HT.out.keep hA).keep ((Below.refl _ _).alloc (Nat.le_refl _) _)))
          rw [World.size_alloc] at HR7
          go_wp2_with (go_at_call 11; refine HR7.out.mono ?_)
          clear e0 e1 e2 e3 e4 e5 e6 e7 e8 g0 g1 g2 g3 g4 g5 g6 g7 g8 HVX HVY HT
          first | rintro e wf rfl hbf' | rintro e wf ⟨rfl, hbf'⟩
          rw [HRT.out]
          have hbf := hbe.trans ((((hA.alloc (by simp) (.cells #[.int .i64 6, .string ⟨([]).toArray⟩, .bool false, .slice none 0 0, .int .i64 0, .int .i64 0, .bool false, .slice (some ⟨we.heap.size, 0, none⟩) 1 1] 25))).trans (hbf'.mono (by simp; omega))).mono hbe.size)
          clear hbf' HR7
          go_wp2_with (go_at_call 10; refine (HAW.out _ (HT0.out.keep hbf)).mono ?_; rintro e wz ⟨rfl, hbz⟩)
          go_ret
          exact ⟨rfl, bel2 (bel2 hb0 hbf) hbz⟩
        · have hdd' : decide ((dx : Int) < 16) = false := decide_eq_false hdd
          clear hdd
          go_wp2_with (go_at_call 10; refine (HAW.out _ (HT0.out.keep hbd)).mono ?_; rintro e wz ⟨rfl, hbz⟩)
          go_ret
          exact ⟨rfl, bel2 (bel2 hb0 hbd) hbz⟩
      by_cases hy1 : yk = 1
      · have hkb : (k == 1) = false := by simpa using hk1
        have hkb' : (k != 1) = true := by simpa using hk1
        have hyb : (yk == 1) = true := by simpa using hy1
        have hyb' : (yk != 1) = false := by simpa using hy1
        clear hk1 hy1
        go_wp2_with (go_at_call 16; refine (Deep_any Any _ X (Nat.le_refl _) (by omega) _ _ HVX.out).mono ?_)
        clear e0 e1 e2 e3 e4 e5 e6 e7 e8 g0 g1 g2 g3 g4 g5 g6 g7 g8 HVX HVY HT
        first | rintro e wd rfl hbd' | rintro e wd ⟨rfl, hbd'⟩
        rw [HDX.out]
        have hbd := bel2 hb8 hbd'
        clear hbd'
        by_cases hdd : (dx : Int) < 16
        · have hdd' : decide ((dx : Int) < 16) = true := decide_eq_true hdd
          obtain ⟨p1, p2, p3⟩ := grp_one HWX.out (k := 5) (.inl rfl)
          obtain ⟨r1, r2, r3, r4⟩ := rep1_one HWX.out
          have HPW := Lib.hid p1
          have HPT : Hid ((grp 5 X).tell = 40 :: (tx ++ [41])) := Lib.hid (by rw [grp5_tell, HTX.out])
          have HRW := Lib.hid r1
          have HRT : Hid ((rep1 X).tell = 40 :: 63 :: 58 :: (tx ++ [41, 63, 63])) := Lib.hid (by rw [r4, HTX.out])
          have hpw : (grp 5 X).wt ≤ 500 := by omega
          have hpd : (grp 5 X).deep ≤ 16 := by rw [p3, HDX.out]; omega
          have hrw : (rep1 X).wt ≤ 500 := by omega
          have hrd : (rep1 X).deep ≤ 16 := by rw [r3, HDX.out]; omega
          clear p1 p2 p3 r1 r2 r3 r4
          obtain ⟨e0, e1, e2, e3, e4, e5, e6, e7, e8⟩ := bx_cells ((hbd.block _ (heap_lt HBX0.out)).trans HBX0.out)
          obtain ⟨g0, g1, g2, g3, g4, g5, g6, g7, g8⟩ := bx_cells ((hbd.block _ (heap_lt HBY0.out)).trans HBY0.out)
          have HVX := Lib.hid (HVX0.out.later hbd)
          have HVY := Lib.hid (HVY0.out.later hbd)
          have HT := Lib.hid (HT0.out.keep hbd)
          have HG5 := Lib.hid (Show_of HPW.out hpw hpd (grp_v (c := 1) (k := 5) (one_lit HVX.out)) (HT.out.keep ((Below.refl wd.heap.size wd).alloc (Nat.le_refl _) _)))
          go_wp2_with (go_at_call 11; refine HG5.out.mono ?_)
          clear e0 e1 e2 e3 e4 e5 e6 e7 e8 g0 g1 g2 g3 g4 g5 g6 g7 g8 HVX HVY HT
          first | rintro e we rfl hbe' | rintro e we ⟨rfl, hbe'⟩
          rw [HPT.out]
          have hbe := hbd.trans ((((Below.refl wd.heap.size wd).alloc (Nat.le_refl _) (.cells #[.int .i64 k, .string ⟨(c).toArray⟩, .bool ng, .slice ra rs.length rc, .int .i64 lo, .int .i64 hi, .bool lz, .slice ka ks.length kc] 25)).trans (hbe'.mono (by simp))).mono hbd.size)
          clear hbe' HG5
          obtain ⟨e0, e1, e2, e3, e4, e5, e6, e7, e8⟩ := bx_cells ((hbe.block _ (heap_lt HBX0.out)).trans HBX0.out)
          obtain ⟨g0, g1, g2, g3, g4, g5, g6, g7, g8⟩ := bx_cells ((hbe.block _ (heap_lt HBY0.out)).trans HBY0.out)
          have HVX := Lib.hid (HVX0.out.later hbe)
          have HVY := Lib.hid (HVY0.out.later hbe)
          have HT := Lib.hid (HT0.out.keep hbe)
          have hA := (Below.refl we.heap.size we).alloc (Nat.le_refl _) (.cells #[.int .i64 k, .string ⟨(c).toArray⟩, .bool ng, .slice ra rs.length rc, .int .i64 lo, .int .i64 hi, .bool lz, .slice ka ks.length kc] 25)
          have HR7 := Lib.hid (Show_of HRW.out hrw hrd (rep1_v (c := 1) (one_lit (grp_v (c := 1) (k := 6) (one_lit HVX.out)))) ((HT.out.keep hA).keep ((Below.refl _ _).alloc (Nat.le_refl _) _)))
          rw [World.size_alloc] at HR7
          go_wp2_with (go_at_call 11; refine HR7.out.mono ?_)
          clear e0 e1 e2 e3 e4 e5 e6 e7 e8 g0 g1 g2 g3 g4 g5 g6 g7 g8 HVX HVY HT
          first | rintro e wf rfl hbf' | rintro e wf ⟨rfl, hbf'⟩
          rw [HRT.out]
          have hbf := hbe.trans ((((hA.alloc (by simp) (.cells #[.int .i64 6, .string ⟨([]).toArray⟩, .bool false, .slice none 0 0, .int .i64 0, .int .i64 0, .bool false, .slice (some ⟨we.heap.size, 0, none⟩) 1 1] 25))).trans (hbf'.mono (by simp; omega))).mono hbe.size)
          clear hbf' HR7
          go_wp2_with (go_at_call 10; refine (HAW.out _ (HT0.out.keep hbf)).mono ?_; rintro e wz ⟨rfl, hbz⟩)
          go_ret
          exact ⟨rfl, bel2 (bel2 hb0 hbf) hbz⟩
        · have hdd' : decide ((dx : Int) < 16) = false := decide_eq_false hdd
          clear hdd
          go_wp2_with (go_at_call 10; refine (HAW.out _ (HT0.out.keep hbd)).mono ?_; rintro e wz ⟨rfl, hbz⟩)
          go_ret
          exact ⟨rfl, bel2 (bel2 hb0 hbd) hbz⟩
      · have hkb : (k == 1) = false := by simpa using hk1
        have hkb' : (k != 1) = true := by simpa using hk1
        have hyb : (yk == 1) = false := by simpa using hy1
        have hyb' : (yk != 1) = true := by simpa using hy1
        obtain ⟨z1, z2, z3, z4⟩ := seq_two HWX.out HWY.out (by rw [HX.out]; exact hk1) (by rw [HY.out]; exact hy1)
        have HQW := Lib.hid z1
        have HQT : Hid ((seqR [X, Y]).tell = tx ++ ty) := Lib.hid (by rw [z4, HTX.out, HTY.out])
        have hqw : (seqR [X, Y]).wt ≤ 500 := by omega
        have hqd : (seqR [X, Y]).deep ≤ 16 := by omega
        clear z1 z2 z3 z4 hk1 hy1
        have HSQ := Lib.hid (Seq_any Any (some ⟨w8.heap.size, 0, none⟩) 2 [X, Y] _ (two_lit HVX.out HVY.out) (by simp only [Rx.partsL]; omega) (by simp only [Rx.smallL]; exact ⟨HSX.out, HSY.out, trivial⟩))
        go_wp2_with (go_at_call 15; refine HSQ.out.mono ?_)
        clear e0 e1 e2 e3 e4 e5 e6 e7 e8 g0 g1 g2 g3 g4 g5 g6 g7 g8 HVX HVY HT
        rintro e w9 ⟨cq, rfl, hq, hb9'⟩
        have hb9 := hb8.trans ((((Below.refl w8.heap.size w8).alloc (Nat.le_refl _) (.cells #[.int .i64 k, .string ⟨(c).toArray⟩, .bool ng, .slice ra rs.length rc, .int .i64 lo, .int .i64 hi, .bool lz, .slice ka ks.length kc, .int .i64 yk, .string ⟨(yc).toArray⟩, .bool yn, .slice ya yr.length yrc, .int .i64 yl, .int .i64 yh, .bool yz, .slice yka ys.length ykc] 25)).trans (hb9'.mono (by simp))).mono hb8.size)
        have HQV := Lib.hid hq
        clear hb9' hq HSQ
        go_wp2_with (go_at_call 11; refine (Show_of HQW.out hqw hqd HQV.out (HT0.out.keep hb9)).mono ?_)
        first | rintro e wa rfl hba' | rintro e wa ⟨rfl, hba'⟩
        rw [HQT.out]
        have hba := bel2 hb9 hba'
        clear hba'
        obtain ⟨e0, e1, e2, e3, e4, e5, e6, e7, e8⟩ := bx_cells ((hba.block _ (heap_lt HBX0.out)).trans HBX0.out)
        obtain ⟨g0, g1, g2, g3, g4, g5, g6, g7, g8⟩ := bx_cells ((hba.block _ (heap_lt HBY0.out)).trans HBY0.out)
        have HVX := Lib.hid (HVX0.out.later hba)
        have HVY := Lib.hid (HVY0.out.later hba)
        have HT := Lib.hid (HT0.out.keep hba)
        go_wp2_with (go_at_call 16; refine (Deep_any Any _ X (Nat.le_refl _) (by omega) _ _ HVX.out).mono ?_)
        clear e0 e1 e2 e3 e4 e5 e6 e7 e8 g0 g1 g2 g3 g4 g5 g6 g7 g8 HVX HVY HT
        first | rintro e wd rfl hbd' | rintro e wd ⟨rfl, hbd'⟩
        rw [HDX.out]
        have hbd := bel2 hba hbd'
        clear hbd'
        by_cases hdd : (dx : Int) < 16
        · have hdd' : decide ((dx : Int) < 16) = true := decide_eq_true hdd
          obtain ⟨p1, p2, p3⟩ := grp_one HWX.out (k := 5) (.inl rfl)
          obtain ⟨r1, r2, r3, r4⟩ := rep1_one HWX.out
          have HPW := Lib.hid p1
          have HPT : Hid ((grp 5 X).tell = 40 :: (tx ++ [41])) := Lib.hid (by rw [grp5_tell, HTX.out])
          have HRW := Lib.hid r1
          have HRT : Hid ((rep1 X).tell = 40 :: 63 :: 58 :: (tx ++ [41, 63, 63])) := Lib.hid (by rw [r4, HTX.out])
          have hpw : (grp 5 X).wt ≤ 500 := by omega
          have hpd : (grp 5 X).deep ≤ 16 := by rw [p3, HDX.out]; omega
          have hrw : (rep1 X).wt ≤ 500 := by omega
          have hrd : (rep1 X).deep ≤ 16 := by rw [r3, HDX.out]; omega
          clear p1 p2 p3 r1 r2 r3 r4
          obtain ⟨e0, e1, e2, e3, e4, e5, e6, e7, e8⟩ := bx_cells ((hbd.block _ (heap_lt HBX0.out)).trans HBX0.out)
          obtain ⟨g0, g1, g2, g3, g4, g5, g6, g7, g8⟩ := bx_cells ((hbd.block _ (heap_lt HBY0.out)).trans HBY0.out)
          have HVX := Lib.hid (HVX0.out.later hbd)
          have HVY := Lib.hid (HVY0.out.later hbd)
          have HT := Lib.hid (HT0.out.keep hbd)
          have HG5 := Lib.hid (Show_of HPW.out hpw hpd (grp_v (c := 1) (k := 5) (one_lit HVX.out)) (HT.out.keep ((Below.refl wd.heap.size wd).alloc (Nat.le_refl _) _)))
          go_wp2_with (go_at_call 11; refine HG5.out.mono ?_)
          clear e0 e1 e2 e3 e4 e5 e6 e7 e8 g0 g1 g2 g3 g4 g5 g6 g7 g8 HVX HVY HT
          first | rintro e we rfl hbe' | rintro e we ⟨rfl, hbe'⟩
          rw [HPT.out]
          have hbe := hbd.trans ((((Below.refl wd.heap.size wd).alloc (Nat.le_refl _) (.cells #[.int .i64 k, .string ⟨(c).toArray⟩, .bool ng, .slice ra rs.length rc, .int .i64 lo, .int .i64 hi, .bool lz, .slice ka ks.length kc] 25)).trans (hbe'.mono (by simp))).mono hbd.size)
          clear hbe' HG5
          obtain ⟨e0, e1, e2, e3, e4, e5, e6, e7, e8⟩ := bx_cells ((hbe.block _ (heap_lt HBX0.out)).trans HBX0.out)
          obtain ⟨g0, g1, g2, g3, g4, g5, g6, g7, g8⟩ := bx_cells ((hbe.block _ (heap_lt HBY0.out)).trans HBY0.out)
          have HVX := Lib.hid (HVX0.out.later hbe)
          have HVY := Lib.hid (HVY0.out.later hbe)
          have HT := Lib.hid (HT0.out.keep hbe)
          have hA := (Below.refl we.heap.size we).alloc (Nat.le_refl _) (.cells #[.int .i64 k, .string ⟨(c).toArray⟩, .bool ng, .slice ra rs.length rc, .int .i64 lo, .int .i64 hi, .bool lz, .slice ka ks.length kc] 25)
          have HR7 := Lib.hid (Show_of HRW.out hrw hrd (rep1_v (c := 1) (one_lit (grp_v (c := 1) (k := 6) (one_lit HVX.out)))) ((HT.out.keep hA).keep ((Below.refl _ _).alloc (Nat.le_refl _) _)))
          rw [World.size_alloc] at HR7
          go_wp2_with (go_at_call 11; refine HR7.out.mono ?_)
          clear e0 e1 e2 e3 e4 e5 e6 e7 e8 g0 g1 g2 g3 g4 g5 g6 g7 g8 HVX HVY HT
          first | rintro e wf rfl hbf' | rintro e wf ⟨rfl, hbf'⟩
          rw [HRT.out]
          have hbf := hbe.trans ((((hA.alloc (by simp) (.cells #[.int .i64 6, .string ⟨([]).toArray⟩, .bool false, .slice none 0 0, .int .i64 0, .int .i64 0, .bool false, .slice (some ⟨we.heap.size, 0, none⟩) 1 1] 25))).trans (hbf'.mono (by simp; omega))).mono hbe.size)
          clear hbf' HR7
          go_wp2_with (go_at_call 10; refine (HAW.out _ (HT0.out.keep hbf)).mono ?_; rintro e wz ⟨rfl, hbz⟩)
          go_ret
          exact ⟨rfl, bel2 (bel2 hb0 hbf) hbz⟩
        · have hdd' : decide ((dx : Int) < 16) = false := decide_eq_false hdd
          clear hdd
          go_wp2_with (go_at_call 10; refine (HAW.out _ (HT0.out.keep hbd)).mono ?_; rintro e wz ⟨rfl, hbz⟩)
          go_ret
          exact ⟨rfl, bel2 (bel2 hb0 hbd) hbz⟩
end Go.Proofs.YtpggnfpjjppbmaaDoor
