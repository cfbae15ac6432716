/- walks of the references: ref13.May; ref15.many -/
import Derived.Test.YtpggnfpjjppbmaaDoorS14
import Derived.Test.YtpggnfpjjppbmaaDoorS13
import Derived.Test.YtpggnfpjjppbmaaDoorS12
set_option maxRecDepth 100000
namespace Go.Proofs.YtpggnfpjjppbmaaDoor
open Go.RowKit
set_option maxHeartbeats 4000000 in
theorem RxRMay_any (S : Nat → Prop) (x : Rx) (cc : List Value) (w : World) (hm : x.parts ≤ 1000000) (hsm : x.small) (hv : RxV w S cc x) :
    Calls Tryd.prog 24 #[.agg cc.toArray] w fun e w' => e = .returned (.bool (mayB x)) ∧ Below w.heap.size w w' := by
  have HR : Hid (mayB x = (decide ((x.parts : Int) ≤ 512) && decide ((x.deep : Int) ≤ 16) && x.wf)) := Lib.hid (by simp only [mayB, okB]; cases x.wf <;> simp)
  have hdp := Rx.deep_parts x
  obtain ⟨p, hp⟩ : ∃ p, x.parts = p := ⟨_, rfl⟩
  obtain ⟨d, hd⟩ : ∃ d, x.deep = d := ⟨_, rfl⟩
  obtain ⟨f, hf⟩ : ∃ f, x.wf = f := ⟨_, rfl⟩
  rw [hp, hd, hf] at HR
  rw [hp] at hm hdp
  rw [hd] at hdp
  have HP := Lib.hid hp
  have HD := Lib.hid hd
  have HF := Lib.hid hf
  have HSM := Lib.hid hsm
  clear hp hd hf hsm
  obtain ⟨k, c, ng, rs, lo, hi, lz, ks⟩ := x
  obtain ⟨ra, rc, ka, kc, rfl, hrs, hx⟩ := hv.open_
  obtain ⟨w0, hw0⟩ : ∃ w0, w0 = w.alloc (.cells #[.int .i64 k, .string ⟨(c).toArray⟩, .bool ng, .slice ra rs.length rc, .int .i64 lo, .int .i64 hi, .bool lz, .slice ka ks.length kc] 25) := ⟨_, rfl⟩
  have hb0 : Below w.heap.size w w0 := by rw [hw0]; exact (Below.refl _ _).alloc (Nat.le_refl _) _
  have hbx0 : w0.heap[w.heap.size]? = some (.cells #[.int .i64 k, .string ⟨(c).toArray⟩, .bool ng, .slice ra rs.length rc, .int .i64 lo, .int .i64 hi, .bool lz, .slice ka ks.length kc] 25 (0, 0)) := by rw [hw0]; exact heap_alloc_new w _
  have HV := Lib.hid (hv.later hb0)
  have HBX := Lib.hid hbx0
  have HW0 := Lib.hid hw0
  rw [hw0] at HV
  clear hv hrs hx hbx0 hw0
  unfold rxc at HV ⊢
  by_cases g1 : (p : Int) ≤ 512
  · have g1' : decide ((p : Int) ≤ 512) = true := decide_eq_true g1
    by_cases g2 : (d : Int) ≤ 16
    · have g2' : decide ((d : Int) ≤ 16) = true := decide_eq_true g2
      have HE : Hid (mayB (.mk k c ng rs lo hi lz ks) = f) := Lib.hid (by rw [HR.out, g1', g2']; rfl)
      rw [HE.out]
      go_enter Tryd.func24, Tryd.ntmps24
      go_wp2_with (go_at_call 41; refine (RParts_any S _ _ (Nat.le_refl _) (by rw [HP.out]; exact hm) _ _ HV.out).mono ?_)
      first | rintro e w1 rfl hb1 | rintro e w1 ⟨rfl, hb1⟩
      rw [HP.out]
      rw [← HW0.out] at hb1
      replace hb1 : Below w0.heap.size w0 w1 := hb1.mono (by rw [HW0.out]; simp)
      have hbb1 := bel2 hb0 hb1
      have hbx1 := (hb1.block _ (heap_lt HBX.out)).trans HBX.out
      have HV1 := Lib.hid ((show RxV w0 S _ _ by rw [HW0.out]; exact HV.out).later hb1)
      have HBX1 := Lib.hid hbx1
      obtain ⟨e0, e1, e2, e3, e4, e5, e6, e7, e8⟩ := bx_cells hbx1
      clear hb1 hbx1
      go_wp2_with (go_at_call 42; refine (RDeep_any S _ _ (Nat.le_refl _) (by rw [HP.out]; exact hm) _ _ HV1.out).mono ?_)
      first | rintro e w2 rfl hb2 | rintro e w2 ⟨rfl, hb2⟩
      rw [HD.out]
      have hbb2 := bel2 hbb1 hb2
      have hbx2 := (hb2.block _ (heap_lt HBX1.out)).trans HBX1.out
      have HV2 := Lib.hid (HV1.out.later hb2)
      clear e0 e1 e2 e3 e4 e5 e6 e7 e8
      obtain ⟨e0, e1, e2, e3, e4, e5, e6, e7, e8⟩ := bx_cells hbx2
      clear hb2 hbx2
      go_wp2_with (go_at_call 43; refine (RMay_any S _ _ (Nat.le_refl _) (by rw [HP.out]; exact hm) HSM.out _ _ HV2.out).mono ?_; rintro e w3 ⟨rfl, hb3⟩; rw [HF.out])
      go_ret
      exact ⟨rfl, bel2 hbb2 hb3⟩
    · have g2' : decide ((d : Int) ≤ 16) = false := decide_eq_false g2
      have HE : Hid (mayB (.mk k c ng rs lo hi lz ks) = false) := Lib.hid (by rw [HR.out, g1', g2']; rfl)
      rw [HE.out]
      go_enter Tryd.func24, Tryd.ntmps24
      go_wp2_with (go_at_call 41; refine (RParts_any S _ _ (Nat.le_refl _) (by rw [HP.out]; exact hm) _ _ HV.out).mono ?_)
      first | rintro e w1 rfl hb1 | rintro e w1 ⟨rfl, hb1⟩
      rw [HP.out]
      rw [← HW0.out] at hb1
      replace hb1 : Below w0.heap.size w0 w1 := hb1.mono (by rw [HW0.out]; simp)
      have hbb1 := bel2 hb0 hb1
      have hbx1 := (hb1.block _ (heap_lt HBX.out)).trans HBX.out
      have HV1 := Lib.hid ((show RxV w0 S _ _ by rw [HW0.out]; exact HV.out).later hb1)
      have HBX1 := Lib.hid hbx1
      obtain ⟨e0, e1, e2, e3, e4, e5, e6, e7, e8⟩ := bx_cells hbx1
      clear hb1 hbx1
      go_wp2_with (go_at_call 42; refine (RDeep_any S _ _ (Nat.le_refl _) (by rw [HP.out]; exact hm) _ _ HV1.out).mono ?_)
      first | rintro e w2 rfl hb2 | rintro e w2 ⟨rfl, hb2⟩
      rw [HD.out]
      have hbb2 := bel2 hbb1 hb2
      have hbx2 := (hb2.block _ (heap_lt HBX1.out)).trans HBX1.out
      have HV2 := Lib.hid (HV1.out.later hb2)
      clear e0 e1 e2 e3 e4 e5 e6 e7 e8
      obtain ⟨e0, e1, e2, e3, e4, e5, e6, e7, e8⟩ := bx_cells hbx2
      clear hb2 hbx2
      go_wp2
      go_ret
      exact ⟨rfl, hbb2⟩
  · have g1' : decide ((p : Int) ≤ 512) = false := decide_eq_false g1
    have HE : Hid (mayB (.mk k c ng rs lo hi lz ks) = false) := Lib.hid (by rw [HR.out, g1']; rfl)
    rw [HE.out]
    go_enter Tryd.func24, Tryd.ntmps24
    go_wp2_with (go_at_call 41; refine (RParts_any S _ _ (Nat.le_refl _) (by rw [HP.out]; exact hm) _ _ HV.out).mono ?_)
    first | rintro e w1 rfl hb1 | rintro e w1 ⟨rfl, hb1⟩
    rw [HP.out]
    rw [← HW0.out] at hb1
    replace hb1 : Below w0.heap.size w0 w1 := hb1.mono (by rw [HW0.out]; simp)
    have hbb1 := bel2 hb0 hb1
    have hbx1 := (hb1.block _ (heap_lt HBX.out)).trans HBX.out
    have HV1 := Lib.hid ((show RxV w0 S _ _ by rw [HW0.out]; exact HV.out).later hb1)
    have HBX1 := Lib.hid hbx1
    obtain ⟨e0, e1, e2, e3, e4, e5, e6, e7, e8⟩ := bx_cells hbx1
    clear hb1 hbx1
    go_wp2
    go_ret
    exact ⟨rfl, hbb1⟩

theorem Digits_eq {n : Int} (w : World) (h0 : 0 ≤ n) (h1 : n ≤ 10000) :
    Calls Tryd.prog 58 #[.int .i64 n] w fun e w' => e = .returned (.string ⟨(dec n).toArray⟩) ∧ Below w.heap.size w w' := by
  obtain ⟨m, rfl⟩ := Int.eq_ofNat_of_zero_le h0
  exact Digits_any m w (by omega)
set_option maxHeartbeats 1000000 in
theorem many_any (lo hi : Int) (w : World) (h0 : 0 ≤ lo) (h1 : lo ≤ 255) (h2 : hi = -1 ∨ lo ≤ hi ∧ hi ≤ 255) :
    Calls Tryd.prog 46 #[.int .i64 lo, .int .i64 hi] w fun e w' => e = .returned (.string ⟨(oftS lo hi).toArray⟩) ∧ Below w.heap.size w w' := by
  generalize hR : oftS lo hi = R
  have HR := Lib.hid hR
  clear hR
  have hl := dec_len h0 (by omega : lo ≤ 9999)
  rcases h2 with rfl | ⟨h3, h4⟩
  · by_cases hl0 : lo = 0
    · subst hl0
      go_enter Tryd.func46, Tryd.ntmps46
      go_wp2
      go_ret
      exact ⟨ret_str (by rw [← HR.out]; simp [oftS]), Below.refl _ _⟩
    by_cases hl1 : lo = 1
    · subst hl1
      go_enter Tryd.func46, Tryd.ntmps46
      go_wp2
      go_ret
      exact ⟨ret_str (by rw [← HR.out]; simp [oftS]), Below.refl _ _⟩
    have e0 : (lo == 0) = false := by simpa using hl0
    have e1 : (lo == 1) = false := by simpa using hl1
    have e2 : (lo == -1) = false := (by rw [beq_eq_false_iff_ne]; omega)
    have HR2 : Hid (R = 123 :: (dec lo ++ [44, 125])) := Lib.hid (by
      rw [← HR.out]; unfold oftS
      rw [if_neg (by omega), if_neg (by omega), if_neg (by omega), if_neg (by omega), if_pos rfl])
    clear hl0 hl1 HR
    go_enter Tryd.func46, Tryd.ntmps46
    go_wp2_with (go_at_call 58; refine (Digits_eq _ (by omega) (by omega)).mono ?_; rintro e w1 ⟨rfl, hb1⟩)
    go_ret
    exact ⟨ret_str (by rw [HR2.out] <;> simp), hb1⟩
  · have hh := dec_len (n := hi) (by omega) (by omega)
    have e2 : (hi == -1) = false := by rw [beq_eq_false_iff_ne]; omega
    by_cases hlh : lo = hi
    · subst hlh
      have HR2 : Hid (R = 123 :: (dec lo ++ [125])) := Lib.hid (by
        rw [← HR.out]; unfold oftS
        rw [if_neg (by omega), if_neg (by omega), if_neg (by omega), if_pos rfl])
      clear HR
      by_cases hl0 : lo = 0
      · subst hl0
        go_enter Tryd.func46, Tryd.ntmps46
        go_wp2_with (go_at_call 58; refine (Digits_eq _ (by omega) (by omega)).mono ?_; rintro e w1 ⟨rfl, hb1⟩)
        go_ret
        exact ⟨ret_str (by rw [HR2.out] <;> simp), hb1⟩
      by_cases hl1 : lo = 1
      · subst hl1
        go_enter Tryd.func46, Tryd.ntmps46
        go_wp2_with (go_at_call 58; refine (Digits_eq _ (by omega) (by omega)).mono ?_; rintro e w1 ⟨rfl, hb1⟩)
        go_ret
        exact ⟨ret_str (by rw [HR2.out] <;> simp), hb1⟩
      · have e0 : (lo == 0) = false := by simpa using hl0
        have e1 : (lo == 1) = false := by simpa using hl1
        clear hl0 hl1
        go_enter Tryd.func46, Tryd.ntmps46
        go_wp2_with (go_at_call 58; refine (Digits_eq _ (by omega) (by omega)).mono ?_; rintro e w1 ⟨rfl, hb1⟩)
        go_ret
        exact ⟨ret_str (by rw [HR2.out] <;> simp), hb1⟩
    · by_cases hq : lo = 0 ∧ hi = 1
      · obtain ⟨rfl, rfl⟩ := hq
        go_enter Tryd.func46, Tryd.ntmps46
        go_wp2
        go_ret
        exact ⟨ret_str (by rw [← HR.out]; simp [oftS]), Below.refl _ _⟩
      have HR2 : Hid (R = 123 :: (dec lo ++ 44 :: (dec hi ++ [125]))) := Lib.hid (by
        rw [← HR.out]; unfold oftS
        rw [if_neg (by omega), if_neg (by omega), if_neg (by omega), if_neg hlh, if_neg (by omega)])
      have e3 : (lo == hi) = false := by simpa using hlh
      clear HR
      by_cases hl0 : lo = 0
      · subst hl0
        have e4 : (hi == 1) = false := by rw [beq_eq_false_iff_ne]; omega
        clear hq hlh
        go_enter Tryd.func46, Tryd.ntmps46
        go_wp2_with (go_at_call 58; refine (Digits_eq _ (by omega) (by omega)).mono ?_)
        first | rintro e w1 rfl hb1 | rintro e w1 ⟨rfl, hb1⟩
        go_wp2_with (go_at_call 58; refine (Digits_eq _ (by omega) (by omega)).mono ?_)
        first | rintro e w2 rfl hb2 | rintro e w2 ⟨rfl, hb2⟩
        go_wp2
        go_ret
        exact ⟨ret_str (by rw [HR2.out] <;> simp), hb1.trans (hb2.mono hb1.size)⟩
      by_cases hl1 : lo = 1
      · subst hl1
        clear hq hlh
        go_enter Tryd.func46, Tryd.ntmps46
        go_wp2_with (go_at_call 58; refine (Digits_eq _ (by omega) (by omega)).mono ?_)
        first | rintro e w1 rfl hb1 | rintro e w1 ⟨rfl, hb1⟩
        go_wp2_with (go_at_call 58; refine (Digits_eq _ (by omega) (by omega)).mono ?_)
        first | rintro e w2 rfl hb2 | rintro e w2 ⟨rfl, hb2⟩
        go_wp2
        go_ret
        exact ⟨ret_str (by rw [HR2.out] <;> simp), hb1.trans (hb2.mono hb1.size)⟩
      · have e0 : (lo == 0) = false := by simpa using hl0
        have e1 : (lo == 1) = false := by simpa using hl1
        clear hl0 hl1 hq hlh
        go_enter Tryd.func46, Tryd.ntmps46
        go_wp2_with (go_at_call 58; refine (Digits_eq _ (by omega) (by omega)).mono ?_)
        first | rintro e w1 rfl hb1 | rintro e w1 ⟨rfl, hb1⟩
        go_wp2_with (go_at_call 58; refine (Digits_eq _ (by omega) (by omega)).mono ?_)
        first | rintro e w2 rfl hb2 | rintro e w2 ⟨rfl, hb2⟩
        go_wp2
        go_ret
        exact ⟨ret_str (by rw [HR2.out] <;> simp), hb1.trans (hb2.mono hb1.size)⟩
end Go.Proofs.YtpggnfpjjppbmaaDoor
