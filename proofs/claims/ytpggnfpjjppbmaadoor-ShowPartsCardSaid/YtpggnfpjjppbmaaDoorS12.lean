/- walks of the references: ref15.sign -/
import Derived.Test.YtpggnfpjjppbmaaDoorShM
import Derived.Test.YtpggnfpjjppbmaaDoorMem
set_option maxRecDepth 100000
namespace Go.Proofs.YtpggnfpjjppbmaaDoor
open Go.RowKit
def SgRel (th : Str) (a : UInt8) (q : Value) : Prop := ∃ k : Nat, k ≤ th.length ∧ q = .int .i64 k ∧ Hid ((th.drop k).contains a = th.contains a)
set_option maxHeartbeats 1000000 in
theorem sign_any (th c : Str) (w : World) (hc : c ≠ []) (hs : c.length ≤ 10000000) (ht : th.length ≤ 1000) :
    Calls Tryd.prog 44 #[.string ⟨(c).toArray⟩, .string ⟨(th).toArray⟩] w fun e w' => e = .returned (.string ⟨(escL th c).toArray⟩) ∧ ∃ n, w' = w.drewN n := by
  generalize hR : escL th c = R
  have HR := Lib.hid hR
  clear hR
  by_cases h1 : c = [10]
  · subst h1
    go_enter Tryd.func44, Tryd.ntmps44
    go_wp2
    go_ret
    exact ⟨ret_str (by rw [← HR.out]; rfl), ⟨0, rfl⟩⟩
  by_cases h2 : c = [13]
  · subst h2
    go_enter Tryd.func44, Tryd.ntmps44
    go_wp2
    go_ret
    exact ⟨ret_str (by rw [← HR.out]; rfl), ⟨0, rfl⟩⟩
  by_cases h3 : c = [9]
  · subst h3
    go_enter Tryd.func44, Tryd.ntmps44
    go_wp2
    go_ret
    exact ⟨ret_str (by rw [← HR.out]; rfl), ⟨0, rfl⟩⟩
  by_cases h4 : c = [12]
  · subst h4
    go_enter Tryd.func44, Tryd.ntmps44
    go_wp2
    go_ret
    exact ⟨ret_str (by rw [← HR.out]; rfl), ⟨0, rfl⟩⟩
  by_cases h5 : c = [11]
  · subst h5
    go_enter Tryd.func44, Tryd.ntmps44
    go_wp2
    go_ret
    exact ⟨ret_str (by rw [← HR.out]; rfl), ⟨0, rfl⟩⟩
  cases c with
  | nil => exact absurd rfl hc
  | cons a r =>
    clear hc
    have HE : Hid (R = if th.contains a = true then 92 :: a :: r else a :: r) := Lib.hid (by
      rw [← HR.out]; unfold escL; rw [if_neg h1, if_neg h2, if_neg h3, if_neg h4, if_neg h5]; rfl)
    have HM0 : Hid ((th.drop 0).contains a = th.contains a) := Lib.hid rfl
    clear HR
    rcases r with _ | ⟨b, r⟩
    · have n1 : (a == 10) = false := by simpa using h1
      have n2 : (a == 13) = false := by simpa using h2
      have n3 : (a == 9) = false := by simpa using h3
      have n4 : (a == 12) = false := by simpa using h4
      have n5 : (a == 11) = false := by simpa using h5
      clear h1 h2 h3 h4 h5 hs
      go_enter Tryd.func44, Tryd.ntmps44
      go_wp2
      go_loopw [5] (fun q wr => SgRel th a q ∧ ∃ n, wr = w.drewN n) (fun q _ => th.length - (intOf q).toNat)
      case atStart => exact ⟨⟨0, by omega, rfl, HM0⟩, 0, rfl⟩
      case round =>
        obtain ⟨⟨k, hk, rfl, HF⟩, nd, rfl⟩ := hrel
        clear HM0
        cases hd : th.drop k with
        | nil =>
          have hge : th.length ≤ k := drop_nil hd
          have HN : Hid (th.contains a = false) := Lib.hid (by rw [← HF.out, hd]; rfl)
          clear hd HF
          go_wp2
          go_ret
          exact ⟨ret_str (by rw [HE.out, HN.out]; rfl), nd, rfl⟩
        | cons x s =>
          obtain ⟨g2, g3, hr⟩ := drop_cons hd
          have HF2 : Hid ((x :: s).contains a = th.contains a) := Lib.hid (by rw [← HF.out, hd])
          have Hr := Lib.hid hr
          clear hd HF hr
          by_cases hx : a = x
          · have HN : Hid (th.contains a = true) := Lib.hid (by rw [← HF2.out, List.contains_cons]; simp [hx])
            subst hx
            go_wp2
            go_quiet (fail)
            go_wp2
            go_ret
            exact ⟨ret_str (by rw [HE.out, HN.out]; rfl), _, rfl⟩
          · have hx2 : ((a.toNat : Int) == x.toNat) = false := by
              rw [beq_eq_false_iff_ne]; intro e; exact hx (UInt8.toNat_inj.1 (by omega))
            have HX := Lib.hid hx
            clear hx
            go_wp2
            go_quiet (fail)
            go_wp2
            go_roundw
            case rel => exact ⟨⟨k + 1, by omega, by go_num, Lib.hid (by rw [Hr.out, ← HF2.out, List.contains_cons]; simp [HX.out])⟩, _, rfl⟩
            case measure => simp [intOf]; omega
    · clear h1 h2 h3 h4 h5
      simp only [List.length_cons] at hs
      go_enter Tryd.func44, Tryd.ntmps44
      go_wp2
      go_loopw [5] (fun q wr => SgRel th a q ∧ ∃ n, wr = w.drewN n) (fun q _ => th.length - (intOf q).toNat)
      case atStart => exact ⟨⟨0, by omega, rfl, HM0⟩, 0, rfl⟩
      case round =>
        obtain ⟨⟨k, hk, rfl, HF⟩, nd, rfl⟩ := hrel
        clear HM0
        cases hd : th.drop k with
        | nil =>
          have hge : th.length ≤ k := drop_nil hd
          have HN : Hid (th.contains a = false) := Lib.hid (by rw [← HF.out, hd]; rfl)
          clear hd HF
          go_wp2
          go_ret
          exact ⟨ret_str (by rw [HE.out, HN.out]; rfl), nd, rfl⟩
        | cons x s =>
          obtain ⟨g2, g3, hr⟩ := drop_cons hd
          have HF2 : Hid ((x :: s).contains a = th.contains a) := Lib.hid (by rw [← HF.out, hd])
          have Hr := Lib.hid hr
          clear hd HF hr
          by_cases hx : a = x
          · have HN : Hid (th.contains a = true) := Lib.hid (by rw [← HF2.out, List.contains_cons]; simp [hx])
            subst hx
            go_wp2
            go_quiet (fail)
            go_wp2
            go_ret
            exact ⟨ret_str (by rw [HE.out, HN.out]; rfl), _, rfl⟩
          · have hx2 : ((a.toNat : Int) == x.toNat) = false := by
              rw [beq_eq_false_iff_ne]; intro e; exact hx (UInt8.toNat_inj.1 (by omega))
            have HX := Lib.hid hx
            clear hx
            go_wp2
            go_quiet (fail)
            go_wp2
            go_roundw
            case rel => exact ⟨⟨k + 1, by omega, by go_num, Lib.hid (by rw [Hr.out, ← HF2.out, List.contains_cons]; simp [HX.out])⟩, _, rfl⟩
            case measure => simp [intOf]; omega
end Go.Proofs.YtpggnfpjjppbmaaDoor
