/- walk of slices.symMergeCmpFunc: one element on a side -/
import Derived.Test.YtemophfieihgaaaE3
set_option maxRecDepth 100000
namespace Go.Proofs.Ytemophfieihgaaa
open Go.RowKit
def bs (p : Nat → Bool) : Nat → Nat → Nat → Nat
  | 0, i, _ => i
  | k + 1, i, j => if i < j then (if p ((i + j) / 2) = true then bs p k ((i + j) / 2 + 1) j else bs p k i ((i + j) / 2)) else i
theorem bs_bd (p : Nat → Bool) : ∀ (k i j : Nat), i ≤ j → i ≤ bs p k i j ∧ bs p k i j ≤ j
  | 0, i, j, h => by simp [bs]; exact h
  | k + 1, i, j, h => by
    simp only [bs]
    split
    · split
      · have := bs_bd p k ((i + j) / 2 + 1) j (by omega); omega
      · have := bs_bd p k i ((i + j) / 2) (by omega); omega
    · omega
def ltAt (rs : List Row) (x y : Nat) : Bool := match rs[x]?, rs[y]? with | some r, some s => decide (cmpR r s < 0) | _, _ => false
theorem ltAt_eq {rs : List Row} {x y : Nat} {r s : Row} (h1 : rs[x]? = some r) (h2 : rs[y]? = some s) : ltAt rs x y = decide (cmpR r s < 0) := by
  unfold ltAt; rw [h1, h2]
def upSw (rs : List Row) (a n : Nat) : List Row := (List.range' a n).foldl (fun l k => swapL l k (k + 1)) rs
def dnSw : Nat → List Row → Nat → List Row
  | 0, rs, _ => rs
  | n + 1, rs, m => dnSw n (swapL rs m (m - 1)) (m - 1)
theorem dnSw_len : ∀ (n : Nat) (rs : List Row) (m : Nat), (dnSw n rs m).length = rs.length
  | 0, _, _ => rfl
  | n + 1, rs, m => by simp only [dnSw]; rw [dnSw_len n, swapL_len]
theorem upSw_len (rs : List Row) (a n : Nat) : (upSw rs a n).length = rs.length := by
  unfold upSw
  have : ∀ (ks : List Nat) (rs : List Row), (ks.foldl (fun l k => swapL l k (k + 1)) rs).length = rs.length := by
    intro ks
    induction ks with
    | nil => intro rs; rfl
    | cons k ks ih => intro rs; rw [List.foldl_cons, ih, swapL_len]
  exact this _ _
def BsRel (B g cap : Nat) (rs : List Row) (p : Nat → Bool) (lo hi T : Nat) (w : World) (q s : Value) (wr : World) : Prop :=
  ∃ (i j k : Nat), q = .int .i64 i ∧ s = .int .i64 j ∧ lo ≤ i ∧ i ≤ j ∧ j ≤ hi ∧ j - i ≤ k ∧ RO wr B g cap rs ∧ w.grownBy wr (some g) ∧ Hid (bs p k i j = T)
def UpRel (B g cap N i : Nat) (R : List Row) (w : World) (q : Value) (wr : World) : Prop :=
  ∃ (k : Nat) (rs : List Row), q = .int .i64 k ∧ k + 1 ≤ i ∧ RO wr B g cap rs ∧ w.grownBy wr (some g) ∧ rs.length = N ∧ Hid (upSw rs k (i - 1 - k) = R)
set_option maxHeartbeats 1000000 in
theorem symMerge_one (B g cap N : Nat) (rs : List Row) (a b : Nat) (w : World) (h : RO w B g cap rs) (hN : rs.length = N) (hab : a + 1 < b) (hbn : b ≤ N) (hl : N ≤ 1000000) :
    Calls Try.prog 66 #[.slice (some ⟨g, 0, none⟩) N cap, .int .i64 a, .int .i64 ((a : Int) + 1), .int .i64 b, .func (.func 58) #[] #[]] w fun e w' => e = .returned (.tuple #[]) ∧ RO w' B g cap (upSw rs a (bs (fun h => ltAt rs h a) b (a + 1) b - 1 - a)) ∧ w.grownBy w' (some g) := by
  obtain ⟨T, hT⟩ : ∃ T, bs (fun h => ltAt rs h a) b (a + 1) b = T := ⟨_, rfl⟩
  have hbd := bs_bd (fun h => ltAt rs h a) b (a + 1) b (by omega)
  rw [hT] at hbd ⊢
  have HT := Lib.hid hT
  have HRO := Lib.hid h
  have e1 : ((a : Int) + 1 - a) = 1 := by omega
  obtain ⟨R, hR⟩ : ∃ R, upSw rs a (T - 1 - a) = R := ⟨_, rfl⟩
  have HR := Lib.hid hR
  rw [hR]
  clear hT h hR
  go_enter Try.func66, Try.ntmps66
  go_wp2
  go_loopw [10, 11] (fun q s wr => BsRel B g cap rs (fun h => ltAt rs h a) (a + 1) b T w q s wr) (fun q s _ => (intOf s).toNat - (intOf q).toNat)
  case atStart => exact ⟨a + 1, b, b, by go_num, rfl, by omega, by omega, by omega, by omega, HRO.out, grown_refl _ _, HT⟩
  case round =>
    obtain ⟨i, j, k, rfl, rfl, hi, hij, hj, hk, hro, hg, HF⟩ := hrel
    clear HT HRO
    by_cases hlt : i < j
    · obtain ⟨k, rfl⟩ : ∃ k', k = k' + 1 := ⟨k - 1, by omega⟩
      obtain ⟨H, hH⟩ : ∃ H, (i + j) / 2 = H := ⟨_, rfl⟩
      have hH2 : ((i : Int) + j) / 2 = (H : Int) := by omega
      have hHb : i ≤ H ∧ H < j := by omega
      obtain ⟨x, hx⟩ : ∃ x, rs[H]? = some x := ⟨_, List.getElem?_eq_getElem (by omega)⟩
      obtain ⟨y, hy⟩ : ∃ y, rs[a]? = some y := ⟨_, List.getElem?_eq_getElem (by omega)⟩
      obtain ⟨c1, c2⟩ := hro.at_ hx
      obtain ⟨c3, c4⟩ := hro.at_ hy
      obtain ⟨x1, x2⟩ := x
      obtain ⟨y1, y2⟩ := y
      obtain ⟨cv, hcv⟩ : ∃ cv, cmpR (x1, x2) (y1, y2) = cv := ⟨_, rfl⟩
      have HCV : Hid (∀ w : World, Calls Try.prog 58 #[.agg #[.string ⟨(x1).toArray⟩, .string ⟨(x2).toArray⟩], .agg #[.string ⟨(y1).toArray⟩, .string ⟨(y2).toArray⟩]] w fun e w' => e = .returned (.int .i64 cv) ∧ Below w.heap.size w w') := Lib.hid (fun w => by
        rw [← hcv]; exact cmpU_any (x1, x2) (y1, y2) w)
      have d1 : ∀ x : ExtOf wr, x.val.cell? ⟨g, (H) * 2, none⟩ = some (.string ⟨(x1).toArray⟩) := ExtOf.cell c1
      have d2 : ∀ x : ExtOf wr, x.val.cell? ⟨g, (H) * 2 + 1, none⟩ = some (.string ⟨(x2).toArray⟩) := ExtOf.cell c2
      have d3 : ∀ x : ExtOf wr, x.val.cell? ⟨g, (a) * 2, none⟩ = some (.string ⟨(y1).toArray⟩) := ExtOf.cell c3
      have d4 : ∀ x : ExtOf wr, x.val.cell? ⟨g, (a) * 2 + 1, none⟩ = some (.string ⟨(y2).toArray⟩) := ExtOf.cell c4
      have HX := Lib.hid hx
      have HY := Lib.hid hy
      have HROJ := Lib.hid hro
      clear hx hy c1 c2 c3 c4
      have HF2 : Hid ((if cv < 0 then bs (fun h => ltAt rs h a) k (H + 1) j else bs (fun h => ltAt rs h a) k i H) = T) := Lib.hid (by
        have hp : ltAt rs H a = decide (cv < 0) := by rw [ltAt_eq HX.out HY.out, hcv]
        rw [← HF.out]; simp only [bs, hlt, if_true, hH, hp, decide_eq_true_eq])
      clear hcv hH HF hro
      go_wp2
      refine wp_region_ext (by kernel_rfl) (by kernel_rfl) ?_
      repeat (go_big_quiet_step ((go_at_call 58; exact ext_call (HCV.out _))))
      refine wpQuiet_nil ?_
      rintro _ ⟨xq, rfl⟩
      have hrq : RO xq.val B g cap rs := own_below HROJ.out xq.ext
      have hgq := grown_below hg xq.ext
      clear d1 d2 d3 d4
      by_cases hc0 : cv < 0
      · have hc0' : decide (cv < 0) = true := decide_eq_true hc0
        have HE2 := Lib.hid ((if_pos hc0).symm.trans HF2.out)
        go_wp2
        go_roundw
        case rel => exact ⟨H + 1, j, k, by go_num, rfl, by omega, by omega, by omega, by omega, hrq, hgq, HE2⟩
        case measure => simp [intOf]; omega
      · have hc0' : decide (cv < 0) = false := decide_eq_false hc0
        have hc9 : 0 ≤ cv := by omega
        have HE2 := Lib.hid ((if_neg hc0).symm.trans HF2.out)
        clear hc0
        go_wp2
        go_roundw
        case rel => exact ⟨i, H, k, rfl, rfl, by omega, by omega, by omega, by omega, hrq, hgq, HE2⟩
        case measure => simp [intOf]; omega
    · have hij2 : i = T := by
        have := HF.out
        have hje : j = i := by omega
        subst hje
        cases k with
        | zero => exact this
        | succ k => simp only [bs] at this; rw [if_neg (by omega)] at this; exact this
      subst hij2
      have HRO := Lib.hid hro
      clear HF hro hk
      obtain ⟨wo, rfl⟩ : ∃ wo : World, wo = wr := ⟨_, rfl⟩
      go_wp2
      go_loopw [13] (fun q wk => UpRel B g cap N i R wo q wk) (fun q _ => i - (intOf q).toNat)
      case atStart => exact ⟨a, rs, rfl, by omega, HRO.out, grown_refl _ _, hN, HR⟩
      case round =>
        obtain ⟨m, l, rfl, hmi, hrol, hgl, hlN, HG⟩ := hrel
        clear HR HRO
        by_cases hm : m + 1 < i
        · obtain ⟨x, hx⟩ : ∃ x, l[m]? = some x := ⟨_, List.getElem?_eq_getElem (by omega)⟩
          obtain ⟨y, hy⟩ : ∃ y, l[m + 1]? = some y := ⟨_, List.getElem?_eq_getElem (by omega)⟩
          have HG2 : Hid (upSw (swapL l m (m + 1)) (m + 1) (i - 1 - (m + 1)) = R) := Lib.hid (by
            rw [← HG.out, show i - 1 - m = (i - 1 - (m + 1)) + 1 by omega]; simp only [upSw]; rw [List.range'_succ, List.foldl_cons])
          clear HG
          obtain ⟨c1, c2⟩ := (hrol).at_ hx
          obtain ⟨c3, c4⟩ := (hrol).at_ hy
          have f := fun k => (hrol).free k
          have hro2 := (hrol).set y (i := m) (by omega)
          obtain ⟨z, hz⟩ : ∃ z, (l.set m y)[(m + 1)]? = some z := ⟨_, List.getElem?_eq_getElem (by simp; omega)⟩
          obtain ⟨c5, c6⟩ := hro2.at_ hz
          have f2 := fun k => hro2.free k
          have HSW := Lib.hid ((hrol).swap hx hy)
          have HGS := Lib.hid (grown_drew (grown_set (grown_set (grown_set (grown_set hgl ((m) * 2) (.string ⟨(y.1).toArray⟩)) ((m) * 2 + 1) (.string ⟨(y.2).toArray⟩)) (((m + 1)) * 2) (.string ⟨(x.1).toArray⟩)) (((m + 1)) * 2 + 1) (.string ⟨(x.2).toArray⟩)))
          clear hx hy hz hro2 hrol hgl
          obtain ⟨x1, x2⟩ := x
          obtain ⟨y1, y2⟩ := y
          go_wp2
          go_region
          go_wp2
          go_roundw
          case rel => exact ⟨m + 1, swapL l m (m + 1), by go_num, by omega, HSW.out, HGS.out, by rw [swapL_len]; exact hlN, HG2⟩
          case measure => simp [intOf]; omega
        · have HE : Hid (l = R) := Lib.hid (by rw [← HG.out, show i - 1 - m = 0 by omega]; rfl)
          clear HG
          go_wp2
          refine bodyPost_ret (v := .tuple #[]) (results_none rfl _ _ _) rfl ?_
          exact ⟨rfl, by rw [← HE.out]; exact hrol, grown_trans hg hgl⟩
end Go.Proofs.Ytemophfieihgaaa
