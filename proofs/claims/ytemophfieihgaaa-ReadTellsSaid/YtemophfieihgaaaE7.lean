/- walks of slices.stableCmpFunc, SortStableFunc -/
import Derived.Test.YtemophfieihgaaaE6
import Derived.Test.YtemophfieihgaaaStM
set_option maxRecDepth 100000
namespace Go.Proofs.Ytemophfieihgaaa
open Go.RowKit
theorem insertion_eq {B g cap N : Nat} {rs : List Row} {a b : Nat} {az bz : Int} (w : World) (h1 : az = a) (h2 : bz = b) (h : RO w B g cap rs) (hN : rs.length = N) (hbn : b ≤ N) (hl : N ≤ 1000000) (haN : a ≤ N) :
    Calls Try.prog 65 #[.slice (some ⟨g, 0, none⟩) N cap, .int .i64 az, .int .i64 bz, .func (.func 58) #[] #[]] w fun e w' => e = .returned (.tuple #[]) ∧ RO w' B g cap (insOut a (b - (a + 1)) (a + 1) rs) ∧ w.grownBy w' (some g) := by
  subst h1 h2; exact insertion_any B g cap N rs a b w h hN hbn hl haN
def SaRel (B g cap N : Nat) (R : List Row) (w : World) (p q : Value) (wr : World) : Prop :=
  ∃ (a k : Nat) (rs : List Row), p = .int .i64 a ∧ q = .int .i64 ((a : Int) + 20) ∧ a ≤ N ∧ N < a + k ∧ RO wr B g cap rs ∧ w.grownBy wr (some g) ∧ rs.length = N ∧ Hid (stA k rs a N = R)
def SbRel (B g cap N s : Nat) (R : List Row) (w : World) (p q : Value) (wr : World) : Prop :=
  ∃ (a k : Nat) (rs : List Row), p = .int .i64 a ∧ q = .int .i64 ((a : Int) + 2 * s) ∧ a ≤ N ∧ N < a + k ∧ RO wr B g cap rs ∧ w.grownBy wr (some g) ∧ rs.length = N ∧ Hid (stB k rs a s N = R)
def ScRel (B g cap N : Nat) (R : List Row) (w : World) (q : Value) (wr : World) : Prop :=
  ∃ (s k : Nat) (rs : List Row), q = .int .i64 s ∧ 20 ≤ s ∧ s ≤ 2000000 ∧ N < s + k ∧ RO wr B g cap rs ∧ w.grownBy wr (some g) ∧ rs.length = N ∧ Hid (stC k rs s N = R)
set_option maxHeartbeats 2000000 in
theorem stable_any (B g cap N : Nat) (rs : List Row) (w : World) (h : RO w B g cap rs) (hN : rs.length = N) (hl : N ≤ 1000000) :
    Calls Try.prog 63 #[.slice (some ⟨g, 0, none⟩) N cap, .int .i64 N, .func (.func 58) #[] #[]] w fun e w' => e = .returned (.tuple #[]) ∧ RO w' B g cap (stL rs) ∧ w.grownBy w' (some g) := by
  unfold stL
  rw [hN]
  obtain ⟨R1, hR1⟩ : ∃ R1, stA (N + 1) rs 0 N = R1 := ⟨_, rfl⟩
  have hl1 : R1.length = N := by rw [← hR1, stA_len]; exact hN
  rw [hR1]
  obtain ⟨R, hR⟩ : ∃ R, stC (N + 1) R1 20 N = R := ⟨_, rfl⟩
  rw [hR]
  have HR1 := Lib.hid hR1
  have HR := Lib.hid hR
  have HRO := Lib.hid h
  clear hR1 hR h
  go_enter Try.func63, Try.ntmps63
  go_wp2
  go_loopw [7, 8] (fun p q wr => SaRel B g cap N R1 w p q wr) (fun p _ _ => N - (intOf p).toNat)
  case atStart => exact ⟨0, N + 1, rs, rfl, rfl, by omega, by omega, HRO.out, grown_refl _ _, hN, HR1⟩
  case round =>
    obtain ⟨a, k, l, rfl, rfl, haN, hk, hro, hg, hlN, HF⟩ := hrel
    clear HR1 HRO hN
    obtain ⟨k, rfl⟩ : ∃ k', k = k' + 1 := ⟨k - 1, by omega⟩
    by_cases hc : a + 20 ≤ N
    · have HE : Hid (stA k (insOut a (a + 20 - (a + 1)) (a + 1) l) (a + 20) N = R1) := Lib.hid (by rw [← HF.out]; simp only [stA]; rw [if_pos hc])
      have HC := Lib.hid (insertion_eq (a := a) (b := a + 20) (az := (a : Int)) (bz := (a : Int) + 20) wr rfl (by omega) hro hlN hc hl haN)
      clear HF hro
      go_wp2_with (go_at_call 65; refine HC.out.mono ?_; rintro e w1 ⟨rfl, hr1, hg1⟩)
      go_roundw
      case rel => exact ⟨a + 20, k, _, by go_num, by go_num, hc, by omega, hr1, grown_trans hg hg1, by rw [insOut_len]; exact hlN, HE⟩
      case measure => simp [intOf]; omega
    · have HE : Hid (insOut a (N - (a + 1)) (a + 1) l = R1) := Lib.hid (by rw [← HF.out]; simp only [stA]; rw [if_neg hc])
      have HC := Lib.hid (insertion_eq (a := a) (b := N) (az := (a : Int)) (bz := (N : Int)) wr rfl rfl hro hlN (Nat.le_refl _) hl haN)
      clear HF hro
      go_wp2_with (go_at_call 65; refine HC.out.mono ?_)
      rintro e w1 ⟨rfl, hr1, hg1⟩
      rw [HE.out] at hr1
      have HRO1 := Lib.hid hr1
      have hgw1 := grown_trans hg hg1
      clear hr1 hg1 HE HC hg
      go_wp2
      go_loopw [6] (fun q wr => ScRel B g cap N R w1 q wr) (fun q _ => N - (intOf q).toNat)
      case atStart => exact ⟨20, N + 1, R1, rfl, by omega, by omega, by omega, HRO1.out, grown_refl _ _, hl1, HR⟩
      case round =>
        obtain ⟨s, k2, l2, rfl, hs20, hs2, hk2, hro2, hg2, hlN2, HG⟩ := hrel
        clear HR HRO1 hl1
        by_cases hs : s < N
        · obtain ⟨k2, rfl⟩ : ∃ k', k2 = k' + 1 := ⟨k2 - 1, by omega⟩
          obtain ⟨T, hT⟩ : ∃ T, stB (N + 1) l2 0 s N = T := ⟨_, rfl⟩
          have hTl : T.length = N := by rw [← hT, stB_len]; exact hlN2
          have HE2 : Hid (stC k2 T (2 * s) N = R) := Lib.hid (by rw [← HG.out]; simp only [stC]; rw [if_pos hs, hT])
          have HT := Lib.hid hT
          have HRO2 := Lib.hid hro2
          clear HG hT hro2
          obtain ⟨wo, rfl⟩ : ∃ wo : World, wo = wr := ⟨_, rfl⟩
          go_wp2
          go_loopw [7, 8] (fun p q wk => SbRel B g cap N s T wo p q wk) (fun p _ _ => N - (intOf p).toNat)
          case atStart => exact ⟨0, N + 1, l2, rfl, by first | rfl | go_num | simp, by omega, by omega, HRO2.out, grown_refl _ _, hlN2, HT⟩
          case round =>
            obtain ⟨d, k3, l3, rfl, rfl, hdN, hk3, hro3, hg3, hlN3, HH⟩ := hrel
            clear HT HRO2 hlN2
            obtain ⟨k3, rfl⟩ : ∃ k', k3 = k' + 1 := ⟨k3 - 1, by omega⟩
            by_cases hc3 : d + 2 * s ≤ N
            · have HE3 : Hid (stB k3 (symM (2 * s) l3 d (d + s) (d + 2 * s)) (d + 2 * s) s N = T) := Lib.hid (by rw [← HH.out]; simp only [stB]; rw [if_pos hc3])
              have HC3 := Lib.hid (symMerge_any B g cap N hl (2 * s) l3 d (d + s) (d + 2 * s) (d : Int) ((d : Int) + s) ((d : Int) + 2 * s) wr rfl (by omega) (by omega) (by omega) (by omega) (by omega) hc3 hro3 hlN3)
              clear HH hro3
              go_wp2_with (go_at_call 66; refine HC3.out.mono ?_; rintro e w4 ⟨rfl, hr4, hg4⟩)
              go_roundw
              case rel => exact ⟨d + 2 * s, k3, _, by go_num, by first | go_num | (simp; omega), hc3, by omega, hr4, grown_trans hg3 hg4, by rw [symM_len]; exact hlN3, HE3⟩
              case measure => simp [intOf]; omega
            · by_cases hc4 : d + s < N
              · have HE3 : Hid (symM (N - d) l3 d (d + s) N = T) := Lib.hid (by rw [← HH.out]; simp only [stB]; rw [if_neg hc3, if_pos hc4])
                have HC3 := Lib.hid (symMerge_any B g cap N hl (N - d) l3 d (d + s) N (d : Int) ((d : Int) + s) (N : Int) wr rfl (by omega) rfl (by omega) (by omega) hc4 (Nat.le_refl _) hro3 hlN3)
                clear HH hro3
                go_wp2_with (go_at_call 66; refine HC3.out.mono ?_; rintro e w4 ⟨rfl, hr4, hg4⟩)
                rw [HE3.out] at hr4
                exact ⟨⟨2 * s, k2, T, by first | go_num | (simp; omega), by omega, by omega, by omega, hr4, grown_trans hg2 (grown_trans hg3 hg4), hTl, HE2⟩, by simp [intOf]; omega⟩
              · have HE3 : Hid (l3 = T) := Lib.hid (by rw [← HH.out]; simp only [stB]; rw [if_neg hc3, if_neg hc4])
                clear HH
                go_wp2
                exact ⟨⟨2 * s, k2, T, by first | go_num | (simp; omega), by omega, by omega, by omega, by rw [← HE3.out]; exact hro3, grown_trans hg2 hg3, hTl, HE2⟩, by simp [intOf]; omega⟩
        · have HE2 : Hid (l2 = R) := Lib.hid (by
            rw [← HG.out]
            cases k2 with
            | zero => rfl
            | succ k2 => simp only [stC]; rw [if_neg hs])
          clear HG
          go_wp2
          go_end0
          exact ⟨rfl, by rw [← HE2.out]; exact hro2, grown_trans hgw1 hg2⟩
theorem SortStable_any (B g cap N : Nat) (rs : List Row) (w : World) (h : RO w B g cap rs) (hN : rs.length = N) (hl : N ≤ 1000000) :
    Calls Try.prog 57 #[.slice (some ⟨g, 0, none⟩) N cap, .func (.func 58) #[] #[]] w fun e w' => e = .returned (.tuple #[]) ∧ RO w' B g cap (stL rs) ∧ w.grownBy w' (some g) := by
  have HRO := Lib.hid h
  clear h
  go_enter Try.func57, Try.ntmps57
  go_wp2_with (go_at_call 63; refine (stable_any B g cap N rs _ HRO.out hN hl).mono ?_; rintro e w1 ⟨rfl, hr1, hg1⟩)
  go_end0
  exact ⟨rfl, hr1, hg1⟩
end Go.Proofs.Ytemophfieihgaaa
