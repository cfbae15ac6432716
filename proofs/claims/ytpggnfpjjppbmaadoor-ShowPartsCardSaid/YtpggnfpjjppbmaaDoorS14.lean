/- walks of the references: ref13.may, May -/
import Derived.Test.YtpggnfpjjppbmaaDoorS11
import Derived.Test.YtpggnfpjjppbmaaDoorS9
import Derived.Test.YtpggnfpjjppbmaaDoorC1
set_option maxRecDepth 100000
namespace Go.Proofs.YtpggnfpjjppbmaaDoor
open Go.RowKit
def WfRel (ks : List Rx) (F R : Bool) (w : World) (q : Value) (wr : World) : Prop :=
  ∃ k : Nat, k ≤ ks.length ∧ q = .int .i64 k ∧ Below w.heap.size w wr ∧ Hid ((Rx.wfL (ks.drop k) && F) = R)
def AllRel (ks : List Rx) (p : Rx → Bool) (F R : Bool) (w : World) (q : Value) (wr : World) : Prop :=
  ∃ k : Nat, k ≤ ks.length ∧ q = .int .i64 k ∧ Below w.heap.size w wr ∧ Hid (((ks.drop k).all p && F) = R)
def p01 (x : Rx) : Bool := decide (x.kind ≠ 0 ∧ x.kind ≠ 1)
def p1 (x : Rx) : Bool := decide (x.kind ≠ 1)
set_option maxHeartbeats 8000000 in
theorem RMay_any (S : Nat → Prop) : ∀ (N : Nat) (x : Rx), x.parts ≤ N → x.parts ≤ 1000000 → x.small → ∀ (cc : List Value) (w : World), RxV w S cc x →
    Calls Tryd.prog 43 #[.agg cc.toArray] w fun e w' => e = .returned (.bool x.wf) ∧ Below w.heap.size w w'
  | 0, x, h, _, _, _, _, _ => by have := Rx.parts_pos x; omega
  | N + 1, .mk k c ng rs lo hi lz ks, h, hm, hsm, cc, w, hv => by
    obtain ⟨ra, rc, ka, kc, rfl, hrs, hx⟩ := hv.open_
    obtain ⟨⟨s1, s2, s3, s4⟩, hsmL⟩ := hsm
    simp only [Rx.parts] at h hm
    have hlen := Rx.len_parts ks
    have ih := fun (y : Rx) (hy : y.parts ≤ Rx.partsL ks) => RMay_any S N y (by omega) (by omega)
    have IH := Lib.hid ih
    have HSM := Lib.hid hsmL
    have HS3 := Lib.hid s3
    obtain ⟨w0, hw0⟩ : ∃ w0, w0 = w.alloc (.cells #[.int .i64 k, .string ⟨(c).toArray⟩, .bool ng, .slice ra rs.length rc, .int .i64 lo, .int .i64 hi, .bool lz, .slice ka ks.length kc] 25) := ⟨_, rfl⟩
    have hb0 : Below w.heap.size w w0 := by rw [hw0]; exact (Below.refl _ _).alloc (Nat.le_refl _) _
    have hbx0 : w0.heap[w.heap.size]? = some (.cells #[.int .i64 k, .string ⟨(c).toArray⟩, .bool ng, .slice ra rs.length rc, .int .i64 lo, .int .i64 hi, .bool lz, .slice ka ks.length kc] 25 (0, 0)) := by rw [hw0]; exact heap_alloc_new w _
    have HX := Lib.hid (hx.later hb0)
    have HRS := Lib.hid hrs
    have HBX := Lib.hid hbx0
    obtain ⟨R, hR⟩ : ∃ R, (Rx.mk k c ng rs lo hi lz ks).wf = R := ⟨_, rfl⟩
    obtain ⟨F, hF⟩ : ∃ F, fieldsB (Rx.mk k c ng rs lo hi lz ks) = F := ⟨_, rfl⟩
    have HR0 : Hid ((Rx.wfL (ks.drop 0) && F) = R) := Lib.hid (by rw [← hR, ← hF, Bool.and_comm]; rfl)
    have HF0 := Lib.hid hF
    rw [hR]
    clear hx hv hrs ih hsmL s3 hbx0 hR hF
    unfold rxc
    go_enter Tryd.func43, Tryd.ntmps43
    go_wp2
    rw [← hw0]
    clear hw0
    go_loopw [4] (fun q wr => WfRel ks F R w0 q wr) (fun q _ => ks.length - (intOf q).toNat)
    case atStart => exact ⟨0, by omega, rfl, Below.refl _ _, HR0⟩
    case round =>
      obtain ⟨i, hik, rfl, hb, HL⟩ := hrel
      clear HR0
      have hB := hb.size
      have hbb := hb0.trans (hb.mono hb0.size)
      have hBX1 := (hb.block _ (heap_lt HBX.out)).trans HBX.out
      have HBXr := Lib.hid hBX1
      cases hd : ks.drop i with
      | cons y r =>
        obtain ⟨e0, e1, e2, e3, e4, e5, e6, e7, e8⟩ := bx_cells (hBX1)
        have hsmy := fun h3 => smallL_mem HSM.out (List.mem_of_getElem? (a := y) (i := i) h3)
        have HSY := Lib.hid hsmy
        clear hsmy hBX1
        obtain ⟨h2, h3, hr⟩ := ldrop_cons hd
        obtain ⟨yk, yc, yn, yr, yl, yh, yz, ys⟩ := y
        obtain ⟨b, o, ya, yrc, yka, ykc, rfl, hS, hbB, _, _, hyv, c0, c1, c2, c3, c4, c5, c6, c7⟩ := (HX.out.later hb).cells h3
        have hyp := Rx.parts_mem (List.mem_of_getElem? h3)
        have Hr := Lib.hid hr
        have HYV := Lib.hid hyv
        unfold rxc at HYV
        have HSY2 := Lib.hid (HSY.out h3)
        have HE : Hid (R = (Rx.wf (.mk yk yc yn yr yl yh yz ys) && (Rx.wfL r && F))) := Lib.hid (by rw [← HL.out, hd, ← Bool.and_assoc]; rfl)
        obtain ⟨yb, hyb⟩ : ∃ yb, Rx.wf (.mk yk yc yn yr yl yh yz ys) = yb := ⟨_, rfl⟩
        have HYB := Lib.hid hyb
        rw [hyb] at HE
        clear hd HL hr h3 hyv hyb HSY
        cases yb with
        | false =>
          have HE3 : Hid (R = false) := Lib.hid (by rw [HE.out]; rfl)
          go_wp2_with (go_at_call 43; refine (IH.out _ hyp HSY2.out _ _ HYV.out).mono ?_; rintro e w1 ⟨rfl, hb1⟩; rw [HYB.out])
          go_ret
          exact ⟨ret_bool HE3.out.symm, hbb.trans (hb1.mono hbb.size)⟩
        | true =>
          have HE3 : Hid ((Rx.wfL r && F) = R) := Lib.hid (by rw [HE.out]; rfl)
          go_wp2_with (go_at_call 43; refine (IH.out _ hyp HSY2.out _ _ HYV.out).mono ?_; rintro e w1 ⟨rfl, hb1⟩; rw [HYB.out])
          go_roundw
          case rel => exact ⟨i + 1, by omega, by go_num, hb.trans (hb1.mono hB), Lib.hid (by rw [Hr.out]; exact HE3.out)⟩
          case measure => simp [intOf]; omega
      | nil =>
        have h2 : ks.length ≤ i := by simpa using hd
        have HFR : Hid (F = R) := Lib.hid (by rw [← HL.out, hd]; rfl)
        obtain ⟨e0, e1, e2, e3, e4, e5, e6, e7, e8⟩ := bx_cells (hBX1)
        clear hd HL hBX1
        by_cases hk0 : k = 0
        · subst hk0
          obtain ⟨bb, hbv⟩ : ∃ bb, bareV c ng rs.length lo hi lz = bb := ⟨_, rfl⟩
          have HB := Lib.hid hbv
          have HE : Hid (R = (bb && decide (ks.length ≠ 1) && ks.all p01)) := Lib.hid (by rw [← HFR.out, ← HF0.out, ← hbv, ← bareB_eq 0 c ng rs lo hi lz ks]; rfl)
          clear hbv HFR HF0
          obtain ⟨F2, hF2⟩ : ∃ b, (bb && decide (ks.length ≠ 1)) = b := ⟨_, rfl⟩
          have HF2 := Lib.hid hF2
          have HK0 : Hid (((ks.drop 0).all p01 && F2) = R) := Lib.hid (by rw [HE.out, ← hF2]; cases bb <;> simp [Bool.and_comm] <;> rfl)
          clear hF2 HE
          have HXr := Lib.hid (HX.out.later hb)
          obtain ⟨wo, rfl⟩ : ∃ wo : World, wo = wr := ⟨_, rfl⟩
          go_wp2
          go_loopw [5] (fun q wk => AllRel ks p01 F2 R wo q wk) (fun q _ => ks.length - (intOf q).toNat)
          case atStart => exact ⟨0, by omega, rfl, Below.refl _ _, HK0⟩
          case round =>
            obtain ⟨j, hj, rfl, hbk, HG⟩ := hrel
            clear HK0
            have hBk := hbk.size
            have hBX2 := (hbk.block _ (heap_lt HBXr.out)).trans HBXr.out
            obtain ⟨e0, e1, e2, e3, e4, e5, e6, e7, e8⟩ := bx_cells (hBX2)
            have hbbk := hbb.trans (hbk.mono hbb.size)
            clear hBX2
            cases hd : ks.drop j with
            | nil =>
              have hge : ks.length ≤ j := by simpa using hd
              have HE : Hid (R = F2) := Lib.hid (by rw [← HG.out, hd]; rfl)
              clear hd HG
              have hbw := hbbk
              cases bb
              all_goals
                go_wp2_with (go_at_call 55; refine (RBare_eq _ HB.out).mono ?_; rintro e w1 ⟨rfl, hb1, _⟩)
                go_ret
                refine ⟨ret_bool ?_, hbw.trans (hb1.mono hbw.size)⟩
                rw [HE.out, ← HF2.out]
                first | rfl | (clear HE HF2; simp; done) | (clear HE HF2; rw [Bool.eq_iff_iff]; simp; omega)
            | cons y r =>
              obtain ⟨h2, h3, hr⟩ := ldrop_cons hd
              obtain ⟨yk, yc, yn, yr, yl, yh, yz, ys⟩ := y
              obtain ⟨b, o, ya, yrc, yka, ykc, rfl, hS, hbB, _, _, hyv, c0, c1, c2, c3, c4, c5, c6, c7⟩ := (HXr.out.later hbk).cells h3
              have Hr := Lib.hid hr
              have HG2 : Hid (((Rx.mk yk yc yn yr yl yh yz ys :: r).all p01 && F2) = R) := Lib.hid (by rw [← HG.out, hd])
              clear hd HG hr h3 hyv c1 c2 c3 c4 c5 c6 c7
              by_cases hy0 : yk = 0
              · subst hy0
                have HE3 : Hid (R = false) := Lib.hid (by rw [← HG2.out]; simp [p01, Rx.kind])
                go_wp2
                go_ret
                exact ⟨ret_bool HE3.out.symm, hbbk⟩
              by_cases hy1 : yk = 1
              · subst hy1
                have HE3 : Hid (R = false) := Lib.hid (by rw [← HG2.out]; simp [p01, Rx.kind])
                go_wp2
                go_ret
                exact ⟨ret_bool HE3.out.symm, hbbk⟩
              have n0 : (yk == 0) = false := by rw [beq_eq_false_iff_ne]; exact hy0
              have n1 : (yk == 1) = false := by rw [beq_eq_false_iff_ne]; exact hy1
              have HN := Lib.hid (And.intro hy0 hy1)
              clear hy0 hy1
              have HE3 : Hid ((r.all p01 && F2) = R) := Lib.hid (by rw [← HG2.out]; simp [p01, Rx.kind, HN.out.1, HN.out.2])
              clear HG2
              go_wp2
              go_roundw
              case rel => exact ⟨j + 1, by omega, by go_num, hbk, Lib.hid (by rw [Hr.out]; exact HE3.out)⟩
              case measure => simp [intOf]; omega
        by_cases hk1 : k = 1
        · subst hk1
          obtain ⟨bb, hbv⟩ : ∃ bb, bareV c ng rs.length lo hi lz = bb := ⟨_, rfl⟩
          have HB := Lib.hid hbv
          have HE : Hid (R = (bb && decide (1 < ks.length) && ks.all p1)) := Lib.hid (by rw [← HFR.out, ← HF0.out, ← hbv, ← bareB_eq 1 c ng rs lo hi lz ks]; rfl)
          clear hbv HFR HF0 hk0
          obtain ⟨F2, hF2⟩ : ∃ b, (bb && decide (1 < ks.length)) = b := ⟨_, rfl⟩
          have HF2 := Lib.hid hF2
          have HK0 : Hid (((ks.drop 0).all p1 && F2) = R) := Lib.hid (by rw [HE.out, ← hF2]; cases bb <;> simp [Bool.and_comm] <;> rfl)
          clear hF2 HE
          have HXr := Lib.hid (HX.out.later hb)
          obtain ⟨wo, rfl⟩ : ∃ wo : World, wo = wr := ⟨_, rfl⟩
          go_wp2
          go_loopw [6] (fun q wk => AllRel ks p1 F2 R wo q wk) (fun q _ => ks.length - (intOf q).toNat)
          case atStart => exact ⟨0, by omega, rfl, Below.refl _ _, HK0⟩
          case round =>
            obtain ⟨j, hj, rfl, hbk, HG⟩ := hrel
            clear HK0
            have hBk := hbk.size
            have hBX2 := (hbk.block _ (heap_lt HBXr.out)).trans HBXr.out
            obtain ⟨e0, e1, e2, e3, e4, e5, e6, e7, e8⟩ := bx_cells (hBX2)
            have hbbk := hbb.trans (hbk.mono hbb.size)
            clear hBX2
            cases hd : ks.drop j with
            | nil =>
              have hge : ks.length ≤ j := by simpa using hd
              have HE : Hid (R = F2) := Lib.hid (by rw [← HG.out, hd]; rfl)
              clear hd HG
              have hbw := hbbk
              cases bb
              all_goals
                go_wp2_with (go_at_call 55; refine (RBare_eq _ HB.out).mono ?_; rintro e w1 ⟨rfl, hb1, _⟩)
                go_ret
                refine ⟨ret_bool ?_, hbw.trans (hb1.mono hbw.size)⟩
                rw [HE.out, ← HF2.out]
                first | rfl | (clear HE HF2; simp; done) | (clear HE HF2; rw [Bool.eq_iff_iff]; simp; omega)
            | cons y r =>
              obtain ⟨h2, h3, hr⟩ := ldrop_cons hd
              obtain ⟨yk, yc, yn, yr, yl, yh, yz, ys⟩ := y
              obtain ⟨b, o, ya, yrc, yka, ykc, rfl, hS, hbB, _, _, hyv, c0, c1, c2, c3, c4, c5, c6, c7⟩ := (HXr.out.later hbk).cells h3
              have Hr := Lib.hid hr
              have HG2 : Hid (((Rx.mk yk yc yn yr yl yh yz ys :: r).all p1 && F2) = R) := Lib.hid (by rw [← HG.out, hd])
              clear hd HG hr h3 hyv c1 c2 c3 c4 c5 c6 c7
              by_cases hy1 : yk = 1
              · subst hy1
                have HE3 : Hid (R = false) := Lib.hid (by rw [← HG2.out]; simp [p1, Rx.kind])
                go_wp2
                go_ret
                exact ⟨ret_bool HE3.out.symm, hbbk⟩
              have n1 : (yk == 1) = false := by rw [beq_eq_false_iff_ne]; exact hy1
              have HN := Lib.hid hy1
              clear hy1
              have HE3 : Hid ((r.all p1 && F2) = R) := Lib.hid (by rw [← HG2.out]; simp [p1, Rx.kind, HN.out])
              clear HG2
              go_wp2
              go_roundw
              case rel => exact ⟨j + 1, by omega, by go_num, hbk, Lib.hid (by rw [Hr.out]; exact HE3.out)⟩
              case measure => simp [intOf]; omega
        by_cases hk2 : k = 2
        · subst hk2
          obtain ⟨bb, hbv⟩ : ∃ bb, bareV [] ng rs.length lo hi lz = bb := ⟨_, rfl⟩
          obtain ⟨pp, hpv⟩ : ∃ pp, properB c = pp := ⟨_, rfl⟩
          have HB := Lib.hid hbv
          have HP := Lib.hid hpv
          have HE : Hid (R = (bb && decide (ks.length = 0) && pp)) := Lib.hid (by rw [← HFR.out, ← HF0.out, ← hbv, ← hpv, ← bareB_eq 2 [] ng rs lo hi lz ks]; cases ks <;> simp [fieldsB])
          clear hbv hpv HFR HF0 hk0 hk1
          by_cases hl : ks.length = 0
          · have l0 : ((ks.length : Int) == 0) = true := by rw [hl]; rfl
            have HE2 : Hid (R = (bb && pp)) := Lib.hid (by rw [HE.out, hl]; simp)
            clear hl HE
            cases bb
            · go_wp2_with (go_at_call 55; refine (RBare_eq _ HB.out).mono ?_; rintro e w1 ⟨rfl, hb1, _⟩)
              go_ret
              exact ⟨ret_bool HE2.out.symm, bel2 (hbb.setCell (by simp) _) hb1⟩
            · go_wp2_with (first | (go_at_call 55; refine (RBare_eq _ HB.out).mono ?_; rintro e w1 ⟨rfl, hb1, _⟩) | (go_at_call 17; refine (RProper_eq _ HP.out (by omega)).mono ?_; rintro e w2 ⟨rfl, hb2⟩))
              go_ret
              exact ⟨ret_bool HE2.out.symm, bel2 (bel2 (hbb.setCell (by simp) _) hb1) hb2⟩
          · have l0 : ((ks.length : Int) == 0) = false := by rw [beq_eq_false_iff_ne]; omega
            have HE2 : Hid (R = false) := Lib.hid (by rw [HE.out, decide_eq_false hl]; simp)
            clear hl HE
            cases bb
            all_goals
              go_wp2_with (go_at_call 55; refine (RBare_eq _ HB.out).mono ?_; rintro e w1 ⟨rfl, hb1, _⟩)
              go_ret
              exact ⟨ret_bool HE2.out.symm, bel2 (hbb.setCell (by simp) _) hb1⟩
        by_cases hk4 : k = 4
        · subst hk4
          obtain ⟨bb, hbv⟩ : ∃ bb, bareV c false 0 lo hi lz = bb := ⟨_, rfl⟩
          have HB := Lib.hid hbv
          have HE : Hid (R = (bb && decide (ks.length = 0) && rowsB rs)) := Lib.hid (by rw [← HFR.out, ← HF0.out, ← hbv, show (0 : Nat) = ([] : List (Str × Str)).length from rfl, ← bareB_eq 4 c false [] lo hi lz ks]; cases ks <;> simp [fieldsB])
          clear hbv HFR HF0 hk0 hk1 hk2
          by_cases hl : ks.length = 0
          · have l0 : ((ks.length : Int) == 0) = true := by rw [hl]; rfl
            have HE2 : Hid (R = (bb && rowsB rs)) := Lib.hid (by rw [HE.out, hl]; simp)
            clear hl HE
            cases bb
            · go_wp2_with (go_at_call 55; refine (RBare_eq _ HB.out).mono ?_; rintro e w1 ⟨rfl, hb1, _⟩)
              go_ret
              exact ⟨ret_bool HE2.out.symm, bel2 ((hbb.setCell (by simp) _).setCell (by simp) _) hb1⟩
            · go_wp2_with (first | (((go_at_call 55; refine (RBare_eq _ HB.out).mono ?_; rintro e w1 ⟨rfl, hb1, _⟩)); have hbq := bel2 ((hbb.setCell (by simp) _).setCell (by simp) _) hb1; have HR1 := Lib.hid (HRS.out.keep (Kept.all hbq)).sl) | (go_at_call 56; refine (RRowsMay_any _ _ _ rs _ HR1.out (by omega) HS3.out).mono ?_; rintro e w2 ⟨rfl, hb2⟩))
              go_ret
              exact ⟨ret_bool HE2.out.symm, bel2 hbq hb2⟩
          · have l0 : ((ks.length : Int) == 0) = false := by rw [beq_eq_false_iff_ne]; omega
            have HE2 : Hid (R = false) := Lib.hid (by rw [HE.out, decide_eq_false hl]; simp)
            clear hl HE
            cases bb
            all_goals
              go_wp2_with (go_at_call 55; refine (RBare_eq _ HB.out).mono ?_; rintro e w1 ⟨rfl, hb1, _⟩)
              go_ret
              exact ⟨ret_bool HE2.out.symm, bel2 ((hbb.setCell (by simp) _).setCell (by simp) _) hb1⟩
        by_cases hk7 : k = 7
        · subst hk7
          have HE : Hid (R = repOk c ng rs.length lo hi ks) := Lib.hid (by rw [← HFR.out, ← HF0.out]; unfold repOk; rw [← bareB_eq 7 c ng rs 0 0 false ks]; rfl)
          have HXr := Lib.hid (HX.out.later hb)
          clear HFR HF0 hk0 hk1 hk2 hk4
          go_wp2_with (go_at_call 57; refine (RRepeat_any S _ _ _ _ _ _ _ _ _ _ _ _ _ HXr.out s4).mono ?_; rintro e w1 ⟨rfl, hb1⟩)
          go_ret
          exact ⟨ret_bool HE.out.symm, bel2 hbb hb1⟩
        by_cases hk5 : k = 5 ∨ k = 6
        · obtain ⟨bb, hbv⟩ : ∃ bb, bareV c ng rs.length lo hi lz = bb := ⟨_, rfl⟩
          have HB := Lib.hid hbv
          have HE : Hid (R = (bb && decide (ks.length = 1))) := Lib.hid (by rw [← HFR.out, ← HF0.out, ← hbv, ← bareB_eq k c ng rs lo hi lz ks]; rcases hk5 with rfl | rfl <;> rfl)
          clear hbv HFR HF0 hk0 hk1 hk2 hk4 hk7
          rcases hk5 with rfl | rfl
          all_goals
            cases bb
            all_goals
              go_wp2_with (go_at_call 55; refine (RBare_eq _ HB.out).mono ?_; rintro e w1 ⟨rfl, hb1, _⟩)
              go_ret
              refine ⟨ret_bool ?_, bel2 hbb hb1⟩
              rw [HE.out]
              first | rfl | (clear HE; rw [Bool.eq_iff_iff]; simp; done) | (clear HE; rw [Bool.eq_iff_iff]; simp; omega)
        by_cases hk3 : k = 3 ∨ k = 8 ∨ k = 9 ∨ k = 10 ∨ k = 11
        · obtain ⟨bb, hbv⟩ : ∃ bb, bareV c ng rs.length lo hi lz = bb := ⟨_, rfl⟩
          have HB := Lib.hid hbv
          have HE : Hid (R = (bb && decide (ks.length = 0))) := Lib.hid (by rw [← HFR.out, ← HF0.out, ← hbv, ← bareB_eq k c ng rs lo hi lz ks]; rcases hk3 with rfl | rfl | rfl | rfl | rfl <;> cases ks <;> simp [fieldsB])
          clear hbv HFR HF0 hk0 hk1 hk2 hk4 hk7 hk5
          rcases hk3 with rfl | rfl | rfl | rfl | rfl
          all_goals
            cases bb
            all_goals
              go_wp2_with (go_at_call 55; refine (RBare_eq _ HB.out).mono ?_; rintro e w1 ⟨rfl, hb1, _⟩)
              go_ret
              refine ⟨ret_bool ?_, bel2 hbb hb1⟩
              rw [HE.out]
              first | rfl | (clear HE; rw [Bool.eq_iff_iff]; simp; done) | (clear HE; rw [Bool.eq_iff_iff]; simp; omega)
        · have HE : Hid (R = false) := Lib.hid (by
            rw [← HFR.out, ← HF0.out]
            simp only [fieldsB]
            rw [if_neg hk2, if_neg hk4, if_neg hk7, if_neg hk0, if_neg hk1, if_neg hk5, if_neg hk3])
          have g0 : (k == 0) = false := by simpa using hk0
          have g1 : (k == 1) = false := by simpa using hk1
          have g2 : (k == 2) = false := by simpa using hk2
          have g3 : (k == 3) = false := by rw [beq_eq_false_iff_ne]; omega
          have g4 : (k == 4) = false := by simpa using hk4
          have g5 : (k == 5) = false := by rw [beq_eq_false_iff_ne]; omega
          have g6 : (k == 6) = false := by rw [beq_eq_false_iff_ne]; omega
          have g7 : (k == 7) = false := by simpa using hk7
          have g8 : (k == 8) = false := by rw [beq_eq_false_iff_ne]; omega
          have g9 : (k == 9) = false := by rw [beq_eq_false_iff_ne]; omega
          have g10 : (k == 10) = false := by rw [beq_eq_false_iff_ne]; omega
          have g11 : (k == 11) = false := by rw [beq_eq_false_iff_ne]; omega
          clear hk0 hk1 hk2 hk3 hk4 hk5 hk7
          go_wp2
          go_ret
          exact ⟨ret_bool HE.out.symm, hbb⟩
end Go.Proofs.YtpggnfpjjppbmaaDoor
