/- walks of slices.rotateCmpFunc, insertionSortCmpFunc -/
import Derived.Test.YtemophfieihgaaaE2
set_option maxRecDepth 100000
namespace Go.Proofs.Ytemophfieihgaaa
open Go.RowKit
theorem foldl_swap_len (a b : Nat) : ∀ (ks : List Nat) (rs : List Row), (ks.foldl (fun l k => swapL l (a + k) (b + k)) rs).length = rs.length
  | [], rs => rfl
  | k :: ks, rs => by rw [List.foldl_cons, foldl_swap_len a b ks, swapL_len]
theorem swapN_len (rs : List Row) (a b n : Nat) : (swapN rs a b n).length = rs.length := foldl_swap_len _ _ _ _
theorem swapRange_eq {B g cap N : Nat} {rs : List Row} {a b n : Nat} {az bz nz : Int} (f : Value) (w : World) (h : RO w B g cap rs) (hN : rs.length = N) (h1 : az = a) (h2 : bz = b) (h3 : nz = n) (ha : a + n ≤ N) (hb : b + n ≤ N) (hl : N ≤ 1000000) :
    Calls Try.prog 68 #[.slice (some ⟨g, 0, none⟩) N cap, .int .i64 az, .int .i64 bz, .int .i64 nz, f] w fun e w' => e = .returned (.tuple #[]) ∧ RO w' B g cap (swapN rs a b n) ∧ w.grownBy w' (some g) := by
  subst h1 h2 h3 hN
  exact swapRange_any B g cap rs a b n f w h ha hb hl
def rotL : Nat → List Row → Nat → Nat → Nat → List Row
  | 0, rs, _, _, _ => rs
  | k + 1, rs, m, i, j =>
    if i = j then swapN rs (m - i) m i
    else if j < i then rotL k (swapN rs (m - i) m j) m (i - j) j
    else rotL k (swapN rs (m - i) (m + j - i) i) m i (j - i)
def RtRel (B g cap m N : Nat) (R : List Row) (w : World) (p q : Value) (wr : World) : Prop :=
  ∃ (i j k : Nat) (rs : List Row), p = .int .i64 i ∧ q = .int .i64 j ∧ 0 < i ∧ 0 < j ∧ i ≤ m ∧ m + j ≤ N ∧ i + j ≤ k ∧ RO wr B g cap rs ∧ w.grownBy wr (some g) ∧ rs.length = N ∧ Hid (rotL k rs m i j = R)
set_option maxHeartbeats 1000000 in
theorem rotate_any (B g cap N : Nat) (rs : List Row) (a m b : Nat) (f : Value) (w : World) (h : RO w B g cap rs) (hN : rs.length = N) (ha : a < m) (hb : m < b) (hbn : b ≤ N) (hl : N ≤ 1000000) :
    Calls Try.prog 67 #[.slice (some ⟨g, 0, none⟩) N cap, .int .i64 a, .int .i64 m, .int .i64 b, f] w fun e w' => e = .returned (.tuple #[]) ∧ RO w' B g cap (rotL (b - a) rs m (m - a) (b - m)) ∧ w.grownBy w' (some g) := by
  obtain ⟨R, hR⟩ : ∃ R, rotL (b - a) rs m (m - a) (b - m) = R := ⟨_, rfl⟩
  rw [hR]
  have HR := Lib.hid hR
  have HRO := Lib.hid h
  clear hR h
  go_enter Try.func67, Try.ntmps67
  go_wp2
  go_loopw [10, 11] (fun p q wr => RtRel B g cap m N R w p q wr) (fun p q _ => (intOf p).toNat + (intOf q).toNat)
  case atStart => exact ⟨m - a, b - m, b - a, rs, by go_num, by go_num, by omega, by omega, by omega, by omega, by omega, HRO.out, grown_refl _ _, hN, HR⟩
  case round =>
    obtain ⟨i, j, k, l, rfl, rfl, hi, hj, him, hjn, hk, hro, hg, hlN, HF⟩ := hrel
    clear HR HRO hN
    obtain ⟨k, rfl⟩ : ∃ k', k = k' + 1 := ⟨k - 1, by omega⟩
    by_cases hij : i = j
    · subst hij
      have HE : Hid (swapN l (m - i) m i = R) := Lib.hid (by rw [← HF.out]; simp only [rotL]; rw [if_pos trivial])
      have HO := Lib.hid (swapRange_eq (az := (m : Int) - i) (bz := m) (nz := i) f wr hro hlN (by omega) rfl rfl (a := m - i) (b := m) (n := i) (by omega) (by omega) hl)
      clear HF hro
      go_wp2_with (go_at_call 68; refine HO.out.mono ?_; rintro e w1 ⟨rfl, hr1, hg1⟩)
      go_end0
      exact ⟨rfl, by rw [← HE.out]; exact hr1, grown_trans hg hg1⟩
    · have e1 : ((i : Int) == j) = false := by rw [beq_eq_false_iff_ne]; omega
      have e2 : ((i : Int) != j) = true := by rw [bne_iff_ne]; omega
      by_cases hlt : j < i
      · have HE : Hid (rotL k (swapN l (m - i) m j) m (i - j) j = R) := Lib.hid (by rw [← HF.out]; simp only [rotL]; rw [if_neg hij, if_pos hlt])
        have HO := Lib.hid (swapRange_eq (az := (m : Int) - i) (bz := m) (nz := j) f wr hro hlN (by omega) rfl rfl (a := m - i) (b := m) (n := j) (by omega) (by omega) hl)
        clear HF hro hij
        go_wp2_with (go_at_call 68; refine HO.out.mono ?_; rintro e w1 ⟨rfl, hr1, hg1⟩)
        go_roundw
        case rel => exact ⟨i - j, j, k, _, by go_num, rfl, by omega, by omega, by omega, by omega, by omega, hr1, grown_trans hg hg1, by rw [swapN_len]; exact hlN, HE⟩
        case measure => simp [intOf]; omega
      · have HE : Hid (rotL k (swapN l (m - i) (m + j - i) i) m i (j - i) = R) := Lib.hid (by rw [← HF.out]; simp only [rotL]; rw [if_neg hij, if_neg hlt])
        have HO := Lib.hid (swapRange_eq (az := (m : Int) - i) (bz := (m : Int) + j - i) (nz := i) f wr hro hlN (by omega) (by omega) rfl (a := m - i) (b := m + j - i) (n := i) (by omega) (by omega) hl)
        have hlt2 : i < j := by omega
        clear HF hro hij
        go_wp2_with (go_at_call 68; refine HO.out.mono ?_; rintro e w1 ⟨rfl, hr1, hg1⟩)
        go_roundw
        case rel => exact ⟨i, j - i, k, _, rfl, by go_num, by omega, by omega, by omega, by omega, by omega, hr1, grown_trans hg hg1, by rw [swapN_len]; exact hlN, HE⟩
        case measure => simp [intOf]; omega
/-! ### insertion sort -/
def insIn (a : Nat) : Nat → List Row → List Row
  | 0, rs => rs
  | j + 1, rs => match rs[j + 1]?, rs[j]? with
    | some x, some y => if a < j + 1 ∧ cmpR x y < 0 then insIn a j (swapL rs (j + 1) j) else rs
    | _, _ => rs
def insOut (a : Nat) : Nat → Nat → List Row → List Row
  | 0, _, rs => rs
  | k + 1, i, rs => insOut a k (i + 1) (insIn a i rs)
theorem insIn_len (a : Nat) : ∀ (j : Nat) (rs : List Row), (insIn a j rs).length = rs.length
  | 0, rs => rfl
  | j + 1, rs => by
    simp only [insIn]
    split
    · split
      · rw [insIn_len a j, swapL_len]
      · rfl
    · rfl
theorem insOut_len (a : Nat) : ∀ (k i : Nat) (rs : List Row), (insOut a k i rs).length = rs.length
  | 0, _, _ => rfl
  | k + 1, i, rs => by simp only [insOut]; rw [insOut_len a k, insIn_len]
def InRel (B g cap a b N : Nat) (R : List Row) (w : World) (q : Value) (wr : World) : Prop :=
  ∃ (i : Nat) (rs : List Row), q = .int .i64 i ∧ a < i ∧ (i ≤ b ∨ i = a + 1) ∧ RO wr B g cap rs ∧ w.grownBy wr (some g) ∧ rs.length = N ∧ Hid (insOut a (b - i) i rs = R)
def IjRel (B g cap a i N : Nat) (R : List Row) (w : World) (q : Value) (wr : World) : Prop :=
  ∃ (j : Nat) (rs : List Row), q = .int .i64 j ∧ a ≤ j ∧ j ≤ i ∧ RO wr B g cap rs ∧ w.grownBy wr (some g) ∧ rs.length = N ∧ Hid (insIn a j rs = R)
set_option maxHeartbeats 1000000 in
theorem insertion_any (B g cap N : Nat) (rs : List Row) (a b : Nat) (w : World) (h : RO w B g cap rs) (hN : rs.length = N) (hbn : b ≤ N) (hl : N ≤ 1000000) (haN : a ≤ N) :
    Calls Try.prog 65 #[.slice (some ⟨g, 0, none⟩) N cap, .int .i64 a, .int .i64 b, .func (.func 58) #[] #[]] w fun e w' => e = .returned (.tuple #[]) ∧ RO w' B g cap (insOut a (b - (a + 1)) (a + 1) rs) ∧ w.grownBy w' (some g) := by
  obtain ⟨R, hR⟩ : ∃ R, insOut a (b - (a + 1)) (a + 1) rs = R := ⟨_, rfl⟩
  rw [hR]
  have HR := Lib.hid hR
  have HRO := Lib.hid h
  clear hR h
  go_enter Try.func65, Try.ntmps65
  go_wp2
  go_loopw [8] (fun q wr => InRel B g cap a b N R w q wr) (fun q _ => b - (intOf q).toNat)
  case atStart => exact ⟨a + 1, rs, by go_num, by omega, .inr rfl, HRO.out, grown_refl _ _, hN, HR⟩
  case round =>
    obtain ⟨i, l, rfl, hai, hib, hro, hg, hlN, HF⟩ := hrel
    clear HR HRO hN
    by_cases hlt : i < b
    · obtain ⟨T, hT⟩ : ∃ T, insIn a i l = T := ⟨_, rfl⟩
      have HT0 := Lib.hid hT
      have HTN : T.length = N := by rw [← hT, insIn_len]; exact hlN
      have HE : Hid (insOut a (b - (i + 1)) (i + 1) T = R) := Lib.hid (by rw [← HF.out, show b - i = (b - (i + 1)) + 1 by omega]; simp only [insOut]; rw [hT])
      have HRO := Lib.hid hro
      clear HF hT hib hro
      obtain ⟨wo, rfl⟩ : ∃ wo : World, wo = wr := ⟨_, rfl⟩
      go_wp2
      go_loopw [9] (fun q wk => IjRel B g cap a i N T wo q wk) (fun q _ => (intOf q).toNat)
      case atStart => exact ⟨i, l, rfl, by omega, by omega, HRO.out, grown_refl _ _, hlN, HT0⟩
      case round =>
        obtain ⟨j, lj, rfl, haj, hji, hroj, hgj, hljN, HG⟩ := hrel
        clear HT0 HRO hlN
        by_cases hja : a < j
        · obtain ⟨j, rfl⟩ : ∃ j', j = j' + 1 := ⟨j - 1, by omega⟩
          obtain ⟨x, hx⟩ : ∃ x, lj[j + 1]? = some x := ⟨_, List.getElem?_eq_getElem (by omega)⟩
          obtain ⟨y, hy⟩ : ∃ y, lj[j]? = some y := ⟨_, List.getElem?_eq_getElem (by omega)⟩
          obtain ⟨c1, c2⟩ := hroj.at_ hx
          obtain ⟨c3, c4⟩ := hroj.at_ hy
          obtain ⟨x1, x2⟩ := x
          obtain ⟨y1, y2⟩ := y
          obtain ⟨cv, hcv⟩ : ∃ cv, cmpR (x1, x2) (y1, y2) = cv := ⟨_, rfl⟩
          have HG2 : Hid ((if a < j + 1 ∧ cv < 0 then insIn a j (swapL lj (j + 1) j) else lj) = T) := Lib.hid (by
            rw [← HG.out, ← hcv]; simp only [insIn]; rw [hx, hy])
          have HCV : Hid (∀ w : World, Calls Try.prog 58 #[.agg #[.string ⟨(x1).toArray⟩, .string ⟨(x2).toArray⟩], .agg #[.string ⟨(y1).toArray⟩, .string ⟨(y2).toArray⟩]] w fun e w' => e = .returned (.int .i64 cv) ∧ Below w.heap.size w w') := Lib.hid (fun w => by
            rw [← hcv]; exact cmpU_any (x1, x2) (y1, y2) w)
          have d1 : ∀ x : ExtOf wr, x.val.cell? ⟨g, (j + 1) * 2, none⟩ = some (.string ⟨(x1).toArray⟩) := ExtOf.cell c1
          have d2 : ∀ x : ExtOf wr, x.val.cell? ⟨g, (j + 1) * 2 + 1, none⟩ = some (.string ⟨(x2).toArray⟩) := ExtOf.cell c2
          have d3 : ∀ x : ExtOf wr, x.val.cell? ⟨g, j * 2, none⟩ = some (.string ⟨(y1).toArray⟩) := ExtOf.cell c3
          have d4 : ∀ x : ExtOf wr, x.val.cell? ⟨g, j * 2 + 1, none⟩ = some (.string ⟨(y2).toArray⟩) := ExtOf.cell c4
          have HX := Lib.hid hx
          have HY := Lib.hid hy
          have HROJ := Lib.hid hroj
          have hgt : decide (a < j + 1) = true := decide_eq_true (by omega)
          have hgt2 : decide ((a : Int) < (j : Int) + 1) = true := decide_eq_true (by omega)
          clear hcv hx hy hroj HG c1 c2 c3 c4
          go_wp2
          refine wp_region_ext (by kernel_rfl) (by kernel_rfl) ?_
          repeat (go_big_quiet_step ((go_at_call 58; exact ext_call (HCV.out _))))
          refine wpQuiet_nil ?_
          rintro _ ⟨xq, rfl⟩
          have hrq : RO xq.val B g cap lj := own_below HROJ.out xq.ext
          have hgq := grown_below hgj xq.ext
          obtain ⟨w5, hw5⟩ : ∃ w5, w5 = xq.val := ⟨_, rfl⟩
          rw [← hw5] at hrq hgq ⊢
          clear hw5
          clear xq
          by_cases hc0 : cv < 0
          · have hc0' : decide (cv < 0) = true := decide_eq_true hc0
            have HE2 : Hid (insIn a j (swapL lj (j + 1) j) = T) := Lib.hid (by rw [← HG2.out, if_pos ⟨hja, hc0⟩])
            obtain ⟨c1, c2⟩ := hrq.at_ HX.out
            obtain ⟨c3, c4⟩ := hrq.at_ HY.out
            have f := fun k => hrq.free k
            have hro2 := hrq.set (y1, y2) (i := j + 1) (by omega)
            obtain ⟨z, hz⟩ : ∃ z, (lj.set (j + 1) (y1, y2))[j]? = some z := ⟨_, List.getElem?_eq_getElem (by simp; omega)⟩
            obtain ⟨c5, c6⟩ := hro2.at_ hz
            have f2 := fun k => hro2.free k
            dsimp only at c1 c2 c3 c4 c5 c6 f2
            clear c5 c6 f2
            obtain ⟨z1, z2⟩ := z
            have c5 : ((w5.setCell ⟨g, (j + 1) * 2, none⟩ (.string ⟨(y1).toArray⟩)).setCell ⟨g, (j + 1) * 2 + 1, none⟩ (.string ⟨(y2).toArray⟩)).cell? ⟨g, j * 2, none⟩ = some (.string ⟨(z1).toArray⟩) := (hro2.at_ hz).1
            have c6 : ((w5.setCell ⟨g, (j + 1) * 2, none⟩ (.string ⟨(y1).toArray⟩)).setCell ⟨g, (j + 1) * 2 + 1, none⟩ (.string ⟨(y2).toArray⟩)).cell? ⟨g, j * 2 + 1, none⟩ = some (.string ⟨(z2).toArray⟩) := (hro2.at_ hz).2
            have hsw := hrq.swap HX.out HY.out
            dsimp only at hsw
            have HSW := Lib.hid hsw
            have HGS := Lib.hid (grown_drew (grown_set (grown_set (grown_set (grown_set hgq ((j + 1) * 2) (.string ⟨(y1).toArray⟩)) ((j + 1) * 2 + 1) (.string ⟨(y2).toArray⟩)) (j * 2) (.string ⟨(x1).toArray⟩)) (j * 2 + 1) (.string ⟨(x2).toArray⟩)))
            go_wp2
            clear hrq hgq hro2 hz hc0 HG2 d1 d2 d3 d4 hsw hgt hgt2 hc0'
            go_region
            go_wp2
            go_roundw
            case rel => exact ⟨j, swapL lj (j + 1) j, by go_num, by omega, by omega, HSW.out, HGS.out, by rw [swapL_len]; exact hljN, HE2⟩
            case measure => simp [intOf]
          · have hc0' : decide (cv < 0) = false := decide_eq_false hc0
            have HE2 : Hid (lj = T) := Lib.hid (by rw [← HG2.out, if_neg (fun q => hc0 q.2)])
            have hc9 : 0 ≤ cv := by omega
            clear hc0 HG2 d1 d2 d3 d4
            go_wp2
            exact ⟨⟨i + 1, T, by go_num, by omega, .inl (by omega), by rw [← HE2.out]; exact hrq, grown_trans hg hgq, HTN, HE⟩, by simp [intOf]; omega⟩
        · have hja' : j ≤ a := by omega
          have HE2 : Hid (lj = T) := Lib.hid (by
            rw [← HG.out]
            cases j with
            | zero => rfl
            | succ j =>
              simp only [insIn]
              split
              · rw [if_neg (fun q => hja q.1)]
              · rfl)
          have hgt : decide (a < j) = false := decide_eq_false (by omega)
          clear hja HG
          go_wp2
          refine wp_region_ext (by kernel_rfl) (by kernel_rfl) ?_
          repeat (go_big_quiet_step ((fail)))
          refine wpQuiet_nil ?_
          rintro _ ⟨xq, rfl⟩
          go_wp2
          exact ⟨⟨i + 1, T, by go_num, by omega, .inl (by omega), by rw [← HE2.out]; exact own_below hroj xq.ext, grown_trans hg (grown_below hgj xq.ext), HTN, HE⟩, by simp [intOf]; omega⟩
    · have HE : Hid (l = R) := Lib.hid (by rw [← HF.out, show b - i = 0 by omega]; rfl)
      clear HF
      go_wp2
      go_end0
      exact ⟨rfl, by rw [← HE.out]; exact hro, hg⟩
end Go.Proofs.Ytemophfieihgaaa
