/- walk of slices.symMergeCmpFunc: one element behind -/
import Derived.Test.YtemophfieihgaaaE4
set_option maxRecDepth 100000
namespace Go.Proofs.Ytemophfieihgaaa
open Go.RowKit
def DnRel (B g cap N i hi : Nat) (R : List Row) (w : World) (q : Value) (wr : World) : Prop :=
  ∃ (k : Nat) (rs : List Row), q = .int .i64 k ∧ i ≤ k ∧ k ≤ hi ∧ RO wr B g cap rs ∧ w.grownBy wr (some g) ∧ rs.length = N ∧ Hid (dnSw (k - i) rs k = R)
set_option maxHeartbeats 1000000 in
theorem symMerge_last (B g cap N : Nat) (rs : List Row) (a m : Nat) (w : World) (h : RO w B g cap rs) (hN : rs.length = N) (ham : a + 1 < m) (hbn : m + 1 ≤ N) (hl : N ≤ 1000000) :
    Calls Try.prog 66 #[.slice (some ⟨g, 0, none⟩) N cap, .int .i64 a, .int .i64 m, .int .i64 ((m : Int) + 1), .func (.func 58) #[] #[]] w fun e w' => e = .returned (.tuple #[]) ∧ RO w' B g cap (dnSw (m - bs (fun h => !ltAt rs m h) m a m) rs m) ∧ w.grownBy w' (some g) := by
  obtain ⟨T, hT⟩ : ∃ T, bs (fun h => !ltAt rs m h) m a m = T := ⟨_, rfl⟩
  have hbd := bs_bd (fun h => !ltAt rs m h) m a m (by omega)
  rw [hT] at hbd ⊢
  have HT := Lib.hid hT
  have HRO := Lib.hid h
  have e1 : ((m : Int) - a == 1) = false := by rw [beq_eq_false_iff_ne]; omega
  have e2 : ((m : Int) + 1 - m) = 1 := by omega
  obtain ⟨R, hR⟩ : ∃ R, dnSw (m - T) rs m = R := ⟨_, rfl⟩
  have HR := Lib.hid hR
  rw [hR]
  clear hT h hR
  go_enter Try.func66, Try.ntmps66
  go_wp2
  go_loopw [14, 15] (fun q s wr => BsRel B g cap rs (fun h => !ltAt rs m h) a m T w q s wr) (fun q s _ => (intOf s).toNat - (intOf q).toNat)
  case atStart => exact ⟨a, m, m, rfl, rfl, by omega, by omega, by omega, by omega, HRO.out, grown_refl _ _, HT⟩
  case round =>
    obtain ⟨i, j, k, rfl, rfl, hi, hij, hj, hk, hro, hg, HF⟩ := hrel
    clear HT HRO
    by_cases hlt : i < j
    · obtain ⟨k, rfl⟩ : ∃ k', k = k' + 1 := ⟨k - 1, by omega⟩
      obtain ⟨H, hH⟩ : ∃ H, (i + j) / 2 = H := ⟨_, rfl⟩
      have hH2 : ((i : Int) + j) / 2 = (H : Int) := by omega
      have hHb : i ≤ H ∧ H < j := by omega
      obtain ⟨x, hx⟩ : ∃ x, rs[m]? = some x := ⟨_, List.getElem?_eq_getElem (by omega)⟩
      obtain ⟨y, hy⟩ : ∃ y, rs[H]? = some y := ⟨_, List.getElem?_eq_getElem (by omega)⟩
      obtain ⟨c1, c2⟩ := hro.at_ hx
      obtain ⟨c3, c4⟩ := hro.at_ hy
      obtain ⟨x1, x2⟩ := x
      obtain ⟨y1, y2⟩ := y
      obtain ⟨cv, hcv⟩ : ∃ cv, cmpR (x1, x2) (y1, y2) = cv := ⟨_, rfl⟩
      have HCV : Hid (∀ w : World, Calls Try.prog 58 #[.agg #[.string ⟨(x1).toArray⟩, .string ⟨(x2).toArray⟩], .agg #[.string ⟨(y1).toArray⟩, .string ⟨(y2).toArray⟩]] w fun e w' => e = .returned (.int .i64 cv) ∧ Below w.heap.size w w') := Lib.hid (fun w => by
        rw [← hcv]; exact cmpU_any (x1, x2) (y1, y2) w)
      have d1 : ∀ x : ExtOf wr, x.val.cell? ⟨g, (m) * 2, none⟩ = some (.string ⟨(x1).toArray⟩) := ExtOf.cell c1
      have d2 : ∀ x : ExtOf wr, x.val.cell? ⟨g, (m) * 2 + 1, none⟩ = some (.string ⟨(x2).toArray⟩) := ExtOf.cell c2
      have d3 : ∀ x : ExtOf wr, x.val.cell? ⟨g, (H) * 2, none⟩ = some (.string ⟨(y1).toArray⟩) := ExtOf.cell c3
      have d4 : ∀ x : ExtOf wr, x.val.cell? ⟨g, (H) * 2 + 1, none⟩ = some (.string ⟨(y2).toArray⟩) := ExtOf.cell c4
      have HX := Lib.hid hx
      have HY := Lib.hid hy
      have HROJ := Lib.hid hro
      clear hx hy c1 c2 c3 c4
      have HF2 : Hid ((if cv < 0 then bs (fun h => !ltAt rs m h) k i H else bs (fun h => !ltAt rs m h) k (H + 1) j) = T) := Lib.hid (by
        have hp : (!ltAt rs m H) = !decide (cv < 0) := by rw [ltAt_eq HX.out HY.out, hcv]
        rw [← HF.out]; simp only [bs, hlt, if_true, hH, hp]
        by_cases hc : cv < 0 <;> simp [hc])
      clear hcv hH HF hro
      go_wp2
      refine wp_region_ext (by kernel_rfl) (by kernel_rfl) ?_
      repeat (go_big_quiet_step ((go_at_call 58; exact ext_call (HCV.out _))))
      refine wpQuiet_nil ?_
      rintro _ ⟨xq, rfl⟩
      have hrq : RO xq.val B g cap rs := own_below HROJ.out xq.ext
      have hgq := grown_below hg xq.ext
      clear d1 d2 d3 d4
      by_cases hc0 : cv < 0
      · have hc0' : decide (cv < 0) = true := decide_eq_true hc0
        have HE2 := Lib.hid ((if_pos hc0).symm.trans HF2.out)
        simp only [hc0', Bool.not_true]
        go_wp2
        go_roundw
        case rel => exact ⟨i, H, k, rfl, rfl, by omega, by omega, by omega, by omega, hrq, hgq, HE2⟩
        case measure => simp [intOf]; omega
      · have hc0' : decide (cv < 0) = false := decide_eq_false hc0
        have hc9 : 0 ≤ cv := by omega
        have HE2 := Lib.hid ((if_neg hc0).symm.trans HF2.out)
        clear hc0
        simp only [hc0', Bool.not_false]
        go_wp2
        go_roundw
        case rel => exact ⟨H + 1, j, k, by go_num, rfl, by omega, by omega, by omega, by omega, hrq, hgq, HE2⟩
        case measure => simp [intOf]; omega
    · have hij2 : i = T := by
        have := HF.out
        have hje : j = i := by omega
        subst hje
        cases k with
        | zero => exact this
        | succ k => simp only [bs] at this; rw [if_neg (by omega)] at this; exact this
      subst hij2
      have HRO := Lib.hid hro
      clear HF hro hk
      obtain ⟨wo, rfl⟩ : ∃ wo : World, wo = wr := ⟨_, rfl⟩
      go_wp2
      go_loopw [17] (fun q wk => DnRel B g cap N i m R wo q wk) (fun q _ => (intOf q).toNat)
      case atStart => exact ⟨m, rs, rfl, by omega, by omega, HRO.out, grown_refl _ _, hN, HR⟩
      case round =>
        obtain ⟨d, l, rfl, hid, hdm, hrol, hgl, hlN, HG⟩ := hrel
        clear HR HRO
        by_cases hm : i < d
        · obtain ⟨d, rfl⟩ : ∃ d', d = d' + 1 := ⟨d - 1, by omega⟩
          obtain ⟨x, hx⟩ : ∃ x, l[d + 1]? = some x := ⟨_, List.getElem?_eq_getElem (by omega)⟩
          obtain ⟨y, hy⟩ : ∃ y, l[d]? = some y := ⟨_, List.getElem?_eq_getElem (by omega)⟩
          have HG2 : Hid (dnSw (d - i) (swapL l (d + 1) d) d = R) := Lib.hid (by
            rw [← HG.out, show d + 1 - i = (d - i) + 1 by omega]; simp only [dnSw]; rw [Nat.add_sub_cancel])
          clear HG
          obtain ⟨c1, c2⟩ := (hrol).at_ hx
          obtain ⟨c3, c4⟩ := (hrol).at_ hy
          have f := fun k => (hrol).free k
          have hro2 := (hrol).set y (i := (d + 1)) (by omega)
          obtain ⟨z, hz⟩ : ∃ z, (l.set (d + 1) y)[d]? = some z := ⟨_, List.getElem?_eq_getElem (by simp; omega)⟩
          obtain ⟨c5, c6⟩ := hro2.at_ hz
          have f2 := fun k => hro2.free k
          have HSW := Lib.hid ((hrol).swap hx hy)
          have HGS := Lib.hid (grown_drew (grown_set (grown_set (grown_set (grown_set hgl (((d + 1)) * 2) (.string ⟨(y.1).toArray⟩)) (((d + 1)) * 2 + 1) (.string ⟨(y.2).toArray⟩)) ((d) * 2) (.string ⟨(x.1).toArray⟩)) ((d) * 2 + 1) (.string ⟨(x.2).toArray⟩)))
          clear hx hy hz hro2 hrol hgl
          obtain ⟨x1, x2⟩ := x
          obtain ⟨y1, y2⟩ := y
          have ed : (d : Int) + 1 - 1 = d := by omega
          go_wp2
          clear ed
          go_region
          go_wp2
          go_roundw
          case rel => exact ⟨d, swapL l (d + 1) d, by go_num, by omega, by omega, HSW.out, HGS.out, by rw [swapL_len]; exact hlN, HG2⟩
          case measure => simp [intOf]
        · have HE : Hid (l = R) := Lib.hid (by rw [← HG.out, show d - i = 0 by omega]; rfl)
          clear HG
          go_wp2
          refine bodyPost_ret (v := .tuple #[]) (results_none rfl _ _ _) rfl ?_
          exact ⟨rfl, by rw [← HE.out]; exact hrol, grown_trans hg hgl⟩
end Go.Proofs.Ytemophfieihgaaa
