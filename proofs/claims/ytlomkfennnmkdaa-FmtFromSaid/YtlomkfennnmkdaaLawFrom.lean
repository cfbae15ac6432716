/- FmtFrom: what is read from a place on does not hang on what stands ahead of it. For every input; no condition. -/
import Derived.Test.YtlomkfennnmkdaaT14
import Derived.Test.YtlomkfennnmkdaaLift
namespace Go.Proofs.Ytlomkfennnmkdaa
open Go.RowKit
set_option maxHeartbeats 4000000 in
theorem FmtFrom_walk (p s : Str) (w : World) (hp : p.length ≤ maxLen) (hs : s.length ≤ maxLen) :
    Calls Try.prog 5 #[.string ⟨(p).toArray⟩, .string ⟨(s).toArray⟩] w fun e w' => e = .returned (.bool true) ∧ Below w.heap.size w w' := by
  unfold maxLen at hp hs
  by_cases hsm : p.length ≤ 100 ∧ s.length ≤ 100
  · obtain ⟨hp1, hs1⟩ := hsm
    have hdr : (p ++ s).drop p.length = s := by simp
    cases hR : readX s [] [] with
    | none =>
      have hA : readX (s.drop (0 : Int).toNat) [] [] = none := by simpa using hR
      have hB : readX ((p ++ s).drop ((p.length : Nat) : Int).toNat) [] [] = none := by rw [Int.toNat_natCast, hdr]; exact hR
      have HA := Lib.hid hA; have HB := Lib.hid hB
      clear hA hB hR hdr
      go_enter Try.func5, Try.ntmps5
      go_wp2_with (go_at_call 7; refine (Read_none (l := s) (i := 0) _ (by omega) (by omega) (by omega) HA.out).mono ?_)
      rintro e w1 ⟨hb1, rfl⟩
      go_wp2_with (go_at_call 7; refine (Read_none (l := p ++ s) (i := (p.length : Nat)) _ (by omega) (by simp; omega) (by simp; omega) HB.out).mono ?_)
      rintro e w2 ⟨hb2, rfl⟩
      have hbw := hb1.trans (hb2.mono hb1.size)
      have hnil := Fmts_any none none 0 0 0 0 [] [] w2 (Sl.none_ _ _ _ _) (Sl.none_ _ _ _ _) (by omega) (by omega)
      have HN := Lib.hid hnil; clear hnil
      go_wp2_with (first | (go_at_call 13; refine HN.out.mono ?_; rintro e w3 ⟨rfl, hb3⟩; have hbw3 := hbw.trans (hb3.mono hbw.size)) | (go_at_call 6; refine (awake_any _).mono ?_; rintro e w4 ⟨rfl, hb4⟩))
      go_ret
      exact ⟨rfl, hbw3.trans (hb4.mono hbw3.size)⟩
    | some q =>
      obtain ⟨fs, r⟩ := q
      have hA : readX (s.drop (0 : Int).toNat) [] [] = some (fs, r) := by simpa using hR
      have hB : readX ((p ++ s).drop ((p.length : Nat) : Int).toNat) [] [] = some (fs, r) := by rw [Int.toNat_natCast, hdr]; exact hR
      have HA := Lib.hid hA; have HB := Lib.hid hB
      clear hA hB hR hdr
      go_enter Try.func5, Try.ntmps5
      go_wp2_with (go_at_call 7; refine (Read_some (l := s) (i := 0) _ (by omega) (by omega) (by omega) HA.out).mono ?_)
      rintro e w1 ⟨hb1, a, c, j, rfl, hsl, hj0, hj1, hj2, hfl, hlo⟩
      have HSL := Lib.hid hsl
      have HJ := Lib.hid hj2
      clear hsl hj2
      go_wp2_with (go_at_call 7; refine (Read_some (l := p ++ s) (i := (p.length : Nat)) _ (by omega) (by simp; omega) (by simp; omega) HB.out).mono ?_)
      rintro e w2 ⟨hb2, a', c', j', rfl, hsl', hk0, hk1, hk2, _, _⟩
      have hjj : j' = j + p.length := by
        have h1 := congrArg List.length HJ.out
        have h2 := congrArg List.length hk2
        simp at h1 h2 hk1; omega
      have hbw := hb1.trans (hb2.mono hb1.size)
      have hF := Fmts_any a a' fs.length c fs.length c' fs fs w2 ((HSL.out.keep hb2).mono hb2.size) hsl' (by omega) (by omega)
      rw [decide_eq_true rfl] at hF
      have HF := Lib.hid hF
      subst hjj
      clear hF hsl' hk2
      go_wp2_with (first | (go_at_call 13; refine HF.out.mono ?_; rintro e w3 ⟨rfl, hb3⟩; have hbw3 := hbw.trans (hb3.mono hbw.size)) | (go_at_call 6; refine (awake_any _).mono ?_; rintro e w4 ⟨rfl, hb4⟩))
      go_ret
      exact ⟨rfl, hbw3.trans (hb4.mono hbw3.size)⟩
  · go_enter Try.func5, Try.ntmps5
    go_wp2_with (go_at_call 6; refine (awake_any _).mono ?_; rintro e w4 ⟨rfl, hb4⟩)
    all_goals first
      | (go_ret; exact ⟨rfl, hb4⟩)
      | (exfalso; omega)
end Go.Proofs.Ytlomkfennnmkdaa
