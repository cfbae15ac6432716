/- FmtAgain: what is read of any text may be, and, told and read again, is the same. For every input; no condition. -/
import Derived.Test.YtlomkfennnmkdaaDoorLawBack
namespace Go.Proofs.YtlomkfennnmkdaaDoor
open Go.RowKit
set_option maxHeartbeats 4000000 in
theorem FmtAgain_walk (s : Str) (at_ : Int) (w : World) (ht : Tab w) (hs : s.length ≤ maxLen) :
    Calls Tryd.prog 5 #[.string ⟨(s).toArray⟩, .int .i64 at_] w fun e w' => e = .returned (.bool true) ∧ Below w.heap.size w w' := by
  have HT := Lib.hid ht
  unfold maxLen at hs
  clear ht
  by_cases hs2 : s.length ≤ 200
  · clear hs
    obtain ⟨hk0, hk1⟩ := low_lt at_ (n := (s.length : Int) + 1) (by omega)
    obtain ⟨i, hki⟩ := Int.eq_ofNat_of_zero_le hk0
    rw [hki] at hk0 hk1
    have HK := Lib.hid hki
    clear hki
    cases hR : readX (s.drop i) [] [] with
    | none =>
      have HR : Hid (readX (s.drop ((i : Nat) : Int).toNat) [] [] = none) := Lib.hid (by rw [Int.toNat_natCast]; exact hR)
      clear hR
      go_enter Tryd.func5, Tryd.ntmps5
      go_wp2_with (go_at_call 17; refine (Low_any at_ _ _ (by omega) (by omega)).mono ?_)
      first | rintro e w1 rfl rfl | rintro e w1 ⟨rfl, rfl⟩
      rw [HK.out]
      go_wp2_with (go_at_call 15; refine (Read_none (l := s) (i := (i : Nat)) _ (by omega) (by omega) (by omega) HR.out).mono ?_)
      rintro e w1 ⟨hb1, rfl⟩
      go_wp2_with (go_at_call 8; refine (awake_any _).mono ?_; rintro e w4 ⟨rfl, hb4⟩)
      go_ret
      exact ⟨rfl, hb1.trans (hb4.mono hb1.size)⟩
    | some q =>
      obtain ⟨fs, r⟩ := q
      obtain ⟨hmay, b, rfl⟩ := readX_may hR
      have HR : Hid (readX (s.drop ((i : Nat) : Int).toNat) [] [] = some (fs, 47 :: b)) := Lib.hid (by rw [Int.toNat_natCast]; exact hR)
      have HN := Lib.hid hmay
      clear hR hmay
      go_enter Tryd.func5, Tryd.ntmps5
      go_wp2_with (go_at_call 17; refine (Low_any at_ _ _ (by omega) (by omega)).mono ?_)
      first | rintro e w1 rfl rfl | rintro e w1 ⟨rfl, rfl⟩
      rw [HK.out]
      go_wp2_with (go_at_call 15; refine (Read_some (l := s) (i := (i : Nat)) _ (by omega) (by omega) (by omega) HR.out).mono ?_)
      rintro e w1 ⟨hb1, a, c, j, rfl, hsl, hj0, hj1, hj2, hfl, hlo⟩
      obtain ⟨_, hsj, _⟩ := drop_cons hj2
      have HSL := Lib.hid hsl
      have HLO : Hid (∀ f ∈ fs, f.thn.length ≤ 200 ∧ f.els.length ≤ 200) := Lib.hid (fun f hf => by have := hlo f hf; omega)
      have HT1 := Lib.hid (HT.out.keep hb1)
      have hz1 := hb1.size
      have hsl2 : (showF fs).length ≤ 200000 := by
        have h1 := showF_len (mayL_all _ _ HN.out) HLO.out
        have : fs.length * (4 * 200 + 20) ≤ 200 * (4 * 200 + 20) := Nat.mul_le_mul (by omega) (Nat.le_refl _)
        omega
      have hrd := read_show [] fs [] false [] (show mayL false fs = true from HN.out) (fun _ => rfl)
      have HR2 : Hid (readX ((showF fs ++ [47]).drop (0 : Int).toNat) [] [] = some (fs, [47])) := Lib.hid (by have h := hrd; simpa [flushF] using h)
      clear hrd hj2 hsl hlo HK HR
      go_wp2_with (go_at_call 9; refine (Show_any _ _ 200 fs _ HSL.out HT1.out HLO.out (by omega) (by omega) HN.out).mono ?_)
      first | rintro e w2 rfl hb2 | rintro e w2 ⟨rfl, hb2⟩
      have hbw2 := hb1.trans (hb2.mono hz1)
      have hz2 := hbw2.size
      have HA2 := Lib.hid ((HSL.out.keep hb2).mono hb2.size)
      go_wp2_with (go_at_call 15; refine (Read_some (l := showF fs ++ [47]) (i := 0) _ (by omega) (by simp; omega) (by simp; omega) HR2.out).mono ?_)
      rintro e w3 ⟨hb3, a', c', j', rfl, hsl', hk0, hk1, hk2, hfl', hlo'⟩
      have hbw3 := hbw2.trans (hb3.mono hz2)
      have hz3 := hbw3.size
      have hj : j' = (showF fs).length := by
        have h5 := congrArg List.length hk2
        simp at h5 hk1; omega
      subst hj
      have HA3 := Lib.hid ((HA2.out.keep hb3).mono hb3.size)
      have HB3 := Lib.hid hsl'
      clear hsl' hk2 hlo'
      go_wp2_with (go_at_call 11; refine (May_any _ _ _ fs _ HA3.out (by omega)).mono ?_)
      first | rintro e w5 rfl hb5 | rintro e w5 ⟨rfl, hb5⟩
      rw [HN.out]
      have hbw5 := hbw3.trans (hb5.mono hz3)
      have hz5 := hbw5.size
      have hF := Fmts_any a a' fs.length c fs.length c' fs fs w5 ((HA3.out.keep hb5).mono hb5.size) ((HB3.out.keep hb5).mono hb5.size) (by omega) (by omega)
      rw [decide_eq_true rfl] at hF
      have HF := Lib.hid hF
      clear hF
      go_wp2_with (first | (go_at_call 16; refine HF.out.mono ?_; rintro e w6 ⟨rfl, hb6⟩; have hbw6 := hbw5.trans (hb6.mono hz5)) | (go_at_call 8; refine (awake_any _).mono ?_; rintro e w4 ⟨rfl, hb4⟩))
      go_ret
      exact ⟨rfl, hbw6.trans (hb4.mono hbw6.size)⟩
  · go_enter Tryd.func5, Tryd.ntmps5
    go_wp2_with (go_at_call 8; refine (awake_any _).mono ?_; rintro e w4 ⟨rfl, hb4⟩)
    all_goals first
      | (go_ret; exact ⟨rfl, hb4⟩)
      | (exfalso; omega)
end Go.Proofs.YtlomkfennnmkdaaDoor
