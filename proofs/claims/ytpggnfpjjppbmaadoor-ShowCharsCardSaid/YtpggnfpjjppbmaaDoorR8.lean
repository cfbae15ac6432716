/- walks of rxtree: fits, May -/
import Derived.Test.YtpggnfpjjppbmaaDoorR7
set_option maxRecDepth 100000
namespace Go.Proofs.YtpggnfpjjppbmaaDoor
open Go.RowKit
/-- What 'fits' answers: what is left, if the tree may be. -/
def FitPost (x : Rx) (left dp : Int) (e : Ending) : Prop :=
  ∃ l' : Int, e = .returned (.tuple #[.int .i64 l', .bool (okB x left dp)]) ∧ (okB x left dp = true → l' = left - x.parts)
def FitRel (ks : List Rx) (R : Bool) (tot dp : Int) (w : World) (t q : Value) (wr : World) : Prop :=
  ∃ (k : Nat) (l : Int), k ≤ ks.length ∧ q = .int .i64 k ∧ t = .int .i64 l ∧ 0 ≤ l ∧ l ≤ 100000 ∧ Below w.heap.size w wr ∧ Hid (okL (ks.drop k) l dp = R) ∧ Hid (l - Rx.partsL (ks.drop k) = tot)
theorem okL_nil {l dp : Int} (h : 0 ≤ l) (h' : 0 ≤ dp) : okL [] l dp = true := by
  unfold okL
  rw [decide_eq_true (show ((Rx.partsL [] : Nat) : Int) ≤ l from h), decide_eq_true (show ((Rx.deepL [] : Nat) : Int) ≤ dp from h')]; rfl
theorem fields_eq {S : Nat → Prop} {K : Int} {c : Str} {ng : Bool} {ra : Option Addr} {rs : List (Str × Str)} {rc : Nat} {lo hi : Int} {lz : Bool} {ka : Option Addr} {ks : List Rx} {kc : Nat} {b : Bool} (w : World)
    (h : fieldsB (.mk K c ng rs lo hi lz ks) = b) (hr : SlS w S ra 2 rs.length (rcells rs)) (hx : RxSl w S ka ks.length ks) (hsm : (Rx.mk K c ng rs lo hi lz ks).small1) :
    Calls Tryd.prog 47 #[.agg #[.int .i64 K, .string ⟨(c).toArray⟩, .bool ng, .slice ra rs.length rc, .int .i64 lo, .int .i64 hi, .bool lz, .slice ka ks.length kc]] w fun e w' => e = .returned (.bool b) ∧ Below w.heap.size w w' ∧ ∀ a u, w.cell? a = some u → w'.cell? a = some u := by
  subst h
  exact (fields_any S K c ng ra rs rc lo hi lz ka ks kc w hr hx hsm).mono fun _ _ ⟨h1, h2⟩ => ⟨h1, h2, cell_kept h2⟩
set_option maxHeartbeats 4000000 in
theorem fits_any (S : Nat → Prop) : ∀ (N : Nat) (x : Rx), x.parts ≤ N → x.parts ≤ 1000000 → x.small → ∀ (cc : List Value) (w : World) (left dp : Int), RxV w S cc x → -100000 ≤ left → left ≤ 100000 → -100000 ≤ dp → dp ≤ 100000 →
    Calls Tryd.prog 26 #[.agg cc.toArray, .int .i64 left, .int .i64 dp] w fun e w' => FitPost x left dp e ∧ Below w.heap.size w w'
  | 0, x, h, _, _, _, _, _, _, _, _, _, _, _ => by have := Rx.parts_pos x; omega
  | N + 1, .mk k c ng rs lo hi lz ks, h, hm, hsm, cc, w, left, dp, hv, l0, l1, d0, d1 => by
    obtain ⟨ra, rc, ka, kc, rfl, hrs, hx⟩ := hv.open_
    obtain ⟨hs1, hs2⟩ := hsm
    simp only [Rx.parts] at h hm
    have hlen := Rx.len_parts ks
    have ih := fun (y : Rx) (hy : y.parts ≤ Rx.partsL ks) => fits_any S N y (by omega) (by omega)
    have IH := Lib.hid ih
    have HSM := Lib.hid hs2
    have HS1 := Lib.hid hs1
    have hb0 := (Below.refl w.heap.size w).alloc (Nat.le_refl _) (.cells #[.int .i64 k, .string ⟨(c).toArray⟩, .bool ng, .slice ra rs.length rc, .int .i64 lo, .int .i64 hi, .bool lz, .slice ka ks.length kc] 25)
    have HX0 := Lib.hid (hx.later hb0)
    have HRS := Lib.hid (hrs.keep (Kept.all hb0))
    clear hx hv hrs ih hs1 hs2
    unfold rxc
    cases hG : grpB k with
    | true =>
      cases hF : fieldsB (.mk k c ng rs lo hi lz ks) with
      | false =>
        have HF := Lib.hid hF
        have HO : Hid (okB (.mk k c ng rs lo hi lz ks) left dp = false) := Lib.hid (by rw [okB_eq, hF]; simp)
        clear hF
        go_enter Tryd.func26, Tryd.ntmps26
        go_wp2_with (first | (go_at_call 28; refine (group_any _ _).mono ?_; rintro e w1 ⟨rfl, rfl⟩; rw [hG]) | (go_at_call 47; refine (fields_eq _ HF.out HRS.out HX0.out HS1.out).mono ?_; rintro e w1 ⟨rfl, hb1, hc1⟩; have z1 := hc1 ⟨w.heap.size, 7, none⟩ (.slice ka ks.length kc) (by simp)))
        all_goals
          (go_ret2; refine ⟨⟨left, by rw [HO.out]; rfl, fun h => by rw [HO.out] at h; cases h⟩, ?_⟩; first | exact (Below.refl _ _).alloc (Nat.le_refl _) _ | exact ((Below.refl _ _).alloc (Nat.le_refl _) _).trans (hb1.mono (by simp)))
      | true =>
        have HF := Lib.hid hF
        by_cases hld : left < 1 ∨ dp - 1 < 0
        · have HO : Hid (okB (.mk k c ng rs lo hi lz ks) left dp = false) := Lib.hid (by
            rw [okB_eq, hG]
            rcases hld with h | h
            · rw [decide_eq_false (by omega : ¬ 1 ≤ left)]; rfl
            · simp; omega)
          clear hF
          go_enter Tryd.func26, Tryd.ntmps26
          go_wp2_with (first | (go_at_call 28; refine (group_any _ _).mono ?_; rintro e w1 ⟨rfl, rfl⟩; rw [hG]) | (go_at_call 47; refine (fields_eq _ HF.out HRS.out HX0.out HS1.out).mono ?_; rintro e w1 ⟨rfl, hb1, hc1⟩; have z1 := hc1 ⟨w.heap.size, 7, none⟩ (.slice ka ks.length kc) (by simp)))
          all_goals first
            | (exfalso; omega)
            | (go_ret2; refine ⟨⟨left, by rw [HO.out]; rfl, fun h => by rw [HO.out] at h; cases h⟩, ?_⟩; first | exact (Below.refl _ _).alloc (Nat.le_refl _) _ | exact ((Below.refl _ _).alloc (Nat.le_refl _) _).trans (hb1.mono (by simp)))
        · have hl1 : 1 ≤ left := by omega
          have hd0 : 0 ≤ dp - 1 := by omega
          have HO : Hid (okB (.mk k c ng rs lo hi lz ks) left dp = okL ks (left - 1) (dp - 1)) := Lib.hid (by rw [okB_eq, hG, hF, decide_eq_true hl1]; simp; omega)
          clear hF hld
          obtain ⟨R, hR⟩ : ∃ R, okL ks (left - 1) (dp - 1) = R := ⟨_, rfl⟩
          have HR0 : Hid (okL (ks.drop 0) (left - 1) (dp - 1) = R) := Lib.hid hR
          have HT0 : Hid (left - 1 - Rx.partsL (ks.drop 0) = left - (Rx.mk k c ng rs lo hi lz ks).parts) := Lib.hid (by simp only [Rx.parts, List.drop_zero]; omega)
          obtain ⟨tot, htot⟩ : ∃ tot, left - ((Rx.mk k c ng rs lo hi lz ks).parts : Int) = tot := ⟨_, rfl⟩
          have HOR : Hid (okB (.mk k c ng rs lo hi lz ks) left dp = R) := Lib.hid (by rw [HO.out, hR])
          have HTT := Lib.hid htot
          rw [htot] at HT0
          clear hR htot HO
          go_enter Tryd.func26, Tryd.ntmps26
          go_wp2_with (first | (go_at_call 28; refine (group_any _ _).mono ?_; rintro e w1 ⟨rfl, rfl⟩; rw [hG]) | (go_at_call 47; refine (fields_eq _ HF.out HRS.out HX0.out HS1.out).mono ?_; rintro e w1 ⟨rfl, hb1, hc1⟩; have z1 := hc1 ⟨w.heap.size, 7, none⟩ (.slice ka ks.length kc) (by simp)))
          have HX1 := Lib.hid ((HX0.out.later (Below.refl _ _)).later hb1)
          have hbw1 : Below w.heap.size w w1 := ((Below.refl _ _).alloc (Nat.le_refl _) _).trans (hb1.mono (by simp))
          have hz1 := hbw1.size
          clear hb1 hc1 z1
          go_loopw [1, 33] (fun t q wr => FitRel ks R tot (dp - 1) w1 t q wr) (fun _ q _ => ks.length - (intOf q).toNat)
          case atStart => exact ⟨0, left - 1, by omega, rfl, rfl, by omega, by omega, Below.refl _ _, HR0, HT0⟩
          case round =>
            obtain ⟨i, l, hi, rfl, rfl, hl0, hl9, hb, HL, HTL⟩ := hrel
            clear HR0 HT0
            have hB := hb.size
            cases hd : ks.drop i with
            | nil =>
              have h2 : ks.length ≤ i := by simpa using hd
              have HE : Hid (R = true) := Lib.hid (by rw [← HL.out, hd, okL_nil hl0 hd0])
              have HE2 : Hid (l = tot) := Lib.hid (by rw [← HTL.out, hd]; simp [Rx.partsL])
              clear hd HL HTL
              go_wp2
              go_ret2
              exact ⟨⟨l, by rw [HOR.out, HE.out]; rfl, fun _ => by rw [HE2.out, ← HTT.out]⟩, hbw1.trans (hb.mono hz1)⟩
            | cons y r =>
              have HX := HX1
              obtain ⟨h2, h3, hr⟩ := ldrop_cons hd
              obtain ⟨yk, yc, yn, yr, yl, yh, yz, ys⟩ := y
              obtain ⟨b, o, ya, yrc, yka, ykc, rfl, hS, hbB, _, _, hyv, c0, c1, c2, c3, c4, c5, c6, c7⟩ := (HX.out.later hb).cells h3
              have hyp := Rx.parts_mem (List.mem_of_getElem? h3)
              have hym := smallL_mem HSM.out (List.mem_of_getElem? h3)
              have Hr := Lib.hid hr
              have HE : Hid (R = (okB (.mk yk yc yn yr yl yh yz ys) l (dp - 1) && okL r (l - (Rx.mk yk yc yn yr yl yh yz ys).parts) (dp - 1))) := Lib.hid (by rw [← HL.out, hd, okL_cons])
              have HE2 : Hid (l - (Rx.mk yk yc yn yr yl yh yz ys).parts - Rx.partsL r = tot) := Lib.hid (by rw [← HTL.out, hd]; simp only [Rx.partsL]; omega)
              have HYV := Lib.hid (hyv.later ((Below.refl wr.heap.size wr).alloc (Nat.le_refl _) (.cells (rxc yk yc yn ya yr.length yrc yl yh yz yka ys.length ykc).toArray 25)))
              unfold rxc at HYV
              have HYM := Lib.hid hym
              clear hd HL HTL hr h3 hyv hym
              go_wp2_with (go_at_call 26; refine (IH.out _ hyp HYM.out _ _ l (dp - 1) HYV.out (by omega) (by omega) (by omega) (by omega)).mono ?_)
              rintro e w2 ⟨⟨l', rfl, hl'⟩, hb2⟩
              have hbw2 : Below w.heap.size w w2 := hbw1.trans (((hb.alloc hB _).trans (hb2.mono (by simp; omega))).mono hz1)
              cases hok : okB (.mk yk yc yn yr yl yh yz ys) l (dp - 1) with
              | false =>
                have HE3 : Hid (R = false) := Lib.hid (by rw [HE.out, hok]; rfl)
                clear hl'
                go_wp2
                go_ret2
                exact ⟨⟨_, by rw [HOR.out, HE3.out]; rfl, fun h => by rw [HOR.out, HE3.out] at h; cases h⟩, hbw2⟩
              | true =>
                have hl2 := hl' hok
                have hpp : (Rx.mk yk yc yn yr yl yh yz ys).parts ≤ l := by
                  have h := hok; simp only [okB, Bool.and_eq_true, decide_eq_true_eq] at h; exact h.1.2
                have HE3 : Hid (okL r l' (dp - 1) = R) := Lib.hid (by rw [HE.out, hok, hl2]; rfl)
                have hl3 : 0 ≤ l' := by omega
                have hl4 : l' ≤ 100000 := by omega
                have HE4 : Hid (l' - Rx.partsL r = tot) := Lib.hid (by rw [hl2]; exact HE2.out)
                clear hl' hl2
                go_wp2
                go_roundw
                case rel => exact ⟨i + 1, l', by omega, by go_num, rfl, hl3, hl4, (hb.alloc hB _).trans (hb2.mono (by simp; omega)), Lib.hid (by rw [Hr.out]; exact HE3.out), Lib.hid (by rw [Hr.out]; exact HE4.out)⟩
                case measure => simp [intOf]; omega
    | false =>
      cases hF : fieldsB (.mk k c ng rs lo hi lz ks) with
      | false =>
        have HF := Lib.hid hF
        have HO : Hid (okB (.mk k c ng rs lo hi lz ks) left dp = false) := Lib.hid (by rw [okB_eq, hF]; simp)
        clear hF
        go_enter Tryd.func26, Tryd.ntmps26
        go_wp2_with (first | (go_at_call 28; refine (group_any _ _).mono ?_; rintro e w1 ⟨rfl, rfl⟩; rw [hG]) | (go_at_call 47; refine (fields_eq _ HF.out HRS.out HX0.out HS1.out).mono ?_; rintro e w1 ⟨rfl, hb1, hc1⟩; have z1 := hc1 ⟨w.heap.size, 7, none⟩ (.slice ka ks.length kc) (by simp)))
        all_goals
          (go_ret2; refine ⟨⟨left, by rw [HO.out]; rfl, fun h => by rw [HO.out] at h; cases h⟩, ?_⟩; first | exact (Below.refl _ _).alloc (Nat.le_refl _) _ | exact ((Below.refl _ _).alloc (Nat.le_refl _) _).trans (hb1.mono (by simp)))
      | true =>
        have HF := Lib.hid hF
        by_cases hld : left < 1 ∨ dp < 0
        · have HO : Hid (okB (.mk k c ng rs lo hi lz ks) left dp = false) := Lib.hid (by
            rw [okB_eq, hG]
            rcases hld with h | h
            · rw [decide_eq_false (by omega : ¬ 1 ≤ left)]; rfl
            · simp; omega)
          clear hF
          go_enter Tryd.func26, Tryd.ntmps26
          go_wp2_with (first | (go_at_call 28; refine (group_any _ _).mono ?_; rintro e w1 ⟨rfl, rfl⟩; rw [hG]) | (go_at_call 47; refine (fields_eq _ HF.out HRS.out HX0.out HS1.out).mono ?_; rintro e w1 ⟨rfl, hb1, hc1⟩; have z1 := hc1 ⟨w.heap.size, 7, none⟩ (.slice ka ks.length kc) (by simp)))
          all_goals first
            | (exfalso; omega)
            | (go_ret2; refine ⟨⟨left, by rw [HO.out]; rfl, fun h => by rw [HO.out] at h; cases h⟩, ?_⟩; first | exact (Below.refl _ _).alloc (Nat.le_refl _) _ | exact ((Below.refl _ _).alloc (Nat.le_refl _) _).trans (hb1.mono (by simp)))
        · have hl1 : 1 ≤ left := by omega
          have hd0 : 0 ≤ dp := by omega
          have HO : Hid (okB (.mk k c ng rs lo hi lz ks) left dp = okL ks (left - 1) (dp)) := Lib.hid (by rw [okB_eq, hG, hF, decide_eq_true hl1]; simp; omega)
          clear hF hld
          obtain ⟨R, hR⟩ : ∃ R, okL ks (left - 1) (dp) = R := ⟨_, rfl⟩
          have HR0 : Hid (okL (ks.drop 0) (left - 1) (dp) = R) := Lib.hid hR
          have HT0 : Hid (left - 1 - Rx.partsL (ks.drop 0) = left - (Rx.mk k c ng rs lo hi lz ks).parts) := Lib.hid (by simp only [Rx.parts, List.drop_zero]; omega)
          obtain ⟨tot, htot⟩ : ∃ tot, left - ((Rx.mk k c ng rs lo hi lz ks).parts : Int) = tot := ⟨_, rfl⟩
          have HOR : Hid (okB (.mk k c ng rs lo hi lz ks) left dp = R) := Lib.hid (by rw [HO.out, hR])
          have HTT := Lib.hid htot
          rw [htot] at HT0
          clear hR htot HO
          go_enter Tryd.func26, Tryd.ntmps26
          go_wp2_with (first | (go_at_call 28; refine (group_any _ _).mono ?_; rintro e w1 ⟨rfl, rfl⟩; rw [hG]) | (go_at_call 47; refine (fields_eq _ HF.out HRS.out HX0.out HS1.out).mono ?_; rintro e w1 ⟨rfl, hb1, hc1⟩; have z1 := hc1 ⟨w.heap.size, 7, none⟩ (.slice ka ks.length kc) (by simp)))
          have HX1 := Lib.hid ((HX0.out.later (Below.refl _ _)).later hb1)
          have hbw1 : Below w.heap.size w w1 := ((Below.refl _ _).alloc (Nat.le_refl _) _).trans (hb1.mono (by simp))
          have hz1 := hbw1.size
          clear hb1 hc1 z1
          go_loopw [1, 33] (fun t q wr => FitRel ks R tot (dp) w1 t q wr) (fun _ q _ => ks.length - (intOf q).toNat)
          case atStart => exact ⟨0, left - 1, by omega, rfl, rfl, by omega, by omega, Below.refl _ _, HR0, HT0⟩
          case round =>
            obtain ⟨i, l, hi, rfl, rfl, hl0, hl9, hb, HL, HTL⟩ := hrel
            clear HR0 HT0
            have hB := hb.size
            cases hd : ks.drop i with
            | nil =>
              have h2 : ks.length ≤ i := by simpa using hd
              have HE : Hid (R = true) := Lib.hid (by rw [← HL.out, hd, okL_nil hl0 hd0])
              have HE2 : Hid (l = tot) := Lib.hid (by rw [← HTL.out, hd]; simp [Rx.partsL])
              clear hd HL HTL
              go_wp2
              go_ret2
              exact ⟨⟨l, by rw [HOR.out, HE.out]; rfl, fun _ => by rw [HE2.out, ← HTT.out]⟩, hbw1.trans (hb.mono hz1)⟩
            | cons y r =>
              have HX := HX1
              obtain ⟨h2, h3, hr⟩ := ldrop_cons hd
              obtain ⟨yk, yc, yn, yr, yl, yh, yz, ys⟩ := y
              obtain ⟨b, o, ya, yrc, yka, ykc, rfl, hS, hbB, _, _, hyv, c0, c1, c2, c3, c4, c5, c6, c7⟩ := (HX.out.later hb).cells h3
              have hyp := Rx.parts_mem (List.mem_of_getElem? h3)
              have hym := smallL_mem HSM.out (List.mem_of_getElem? h3)
              have Hr := Lib.hid hr
              have HE : Hid (R = (okB (.mk yk yc yn yr yl yh yz ys) l (dp) && okL r (l - (Rx.mk yk yc yn yr yl yh yz ys).parts) (dp))) := Lib.hid (by rw [← HL.out, hd, okL_cons])
              have HE2 : Hid (l - (Rx.mk yk yc yn yr yl yh yz ys).parts - Rx.partsL r = tot) := Lib.hid (by rw [← HTL.out, hd]; simp only [Rx.partsL]; omega)
              have HYV := Lib.hid (hyv.later ((Below.refl wr.heap.size wr).alloc (Nat.le_refl _) (.cells (rxc yk yc yn ya yr.length yrc yl yh yz yka ys.length ykc).toArray 25)))
              unfold rxc at HYV
              have HYM := Lib.hid hym
              clear hd HL HTL hr h3 hyv hym
              go_wp2_with (go_at_call 26; refine (IH.out _ hyp HYM.out _ _ l (dp) HYV.out (by omega) (by omega) (by omega) (by omega)).mono ?_)
              rintro e w2 ⟨⟨l', rfl, hl'⟩, hb2⟩
              have hbw2 : Below w.heap.size w w2 := hbw1.trans (((hb.alloc hB _).trans (hb2.mono (by simp; omega))).mono hz1)
              cases hok : okB (.mk yk yc yn yr yl yh yz ys) l (dp) with
              | false =>
                have HE3 : Hid (R = false) := Lib.hid (by rw [HE.out, hok]; rfl)
                clear hl'
                go_wp2
                go_ret2
                exact ⟨⟨_, by rw [HOR.out, HE3.out]; rfl, fun h => by rw [HOR.out, HE3.out] at h; cases h⟩, hbw2⟩
              | true =>
                have hl2 := hl' hok
                have hpp : (Rx.mk yk yc yn yr yl yh yz ys).parts ≤ l := by
                  have h := hok; simp only [okB, Bool.and_eq_true, decide_eq_true_eq] at h; exact h.1.2
                have HE3 : Hid (okL r l' (dp) = R) := Lib.hid (by rw [HE.out, hok, hl2]; rfl)
                have hl3 : 0 ≤ l' := by omega
                have hl4 : l' ≤ 100000 := by omega
                have HE4 : Hid (l' - Rx.partsL r = tot) := Lib.hid (by rw [hl2]; exact HE2.out)
                clear hl' hl2
                go_wp2
                go_roundw
                case rel => exact ⟨i + 1, l', by omega, by go_num, rfl, hl3, hl4, (hb.alloc hB _).trans (hb2.mono (by simp; omega)), Lib.hid (by rw [Hr.out]; exact HE3.out), Lib.hid (by rw [Hr.out]; exact HE4.out)⟩
                case measure => simp [intOf]; omega
theorem RxMay_any (S : Nat → Prop) (x : Rx) (cc : List Value) (w : World) (hm : x.parts ≤ 1000000) (hsm : x.small) (hv : RxV w S cc x) :
    Calls Tryd.prog 13 #[.agg cc.toArray] w fun e w' => e = .returned (.bool (mayB x)) ∧ Below w.heap.size w w' := by
  obtain ⟨k, c, ng, rs, lo, hi, lz, ks⟩ := x
  obtain ⟨ra, rc, ka, kc, rfl, hrs, hx⟩ := hv.open_
  have HV := Lib.hid (hv.later ((Below.refl w.heap.size w).alloc (Nat.le_refl _) (.cells #[.int .i64 k, .string ⟨(c).toArray⟩, .bool ng, .slice ra rs.length rc, .int .i64 lo, .int .i64 hi, .bool lz, .slice ka ks.length kc] 25)))
  have HSM := Lib.hid hsm
  have HM := Lib.hid hm
  clear hv hrs hx hsm hm
  unfold rxc at HV ⊢
  go_enter Tryd.func13, Tryd.ntmps13
  go_wp2_with (go_at_call 26; refine (fits_any S _ _ (Nat.le_refl _) HM.out HSM.out _ _ 512 16 HV.out (by decide) (by decide) (by decide) (by decide)).mono ?_; rintro e w1 ⟨⟨l', rfl, hl'⟩, hb1⟩)
  go_ret
  exact ⟨rfl, ((Below.refl _ _).alloc (Nat.le_refl _) _).trans (hb1.mono (by simp))⟩
end Go.Proofs.YtpggnfpjjppbmaaDoor
