/- walk of Low -/
import Derived.Test.YtpggnfpjjppbmaaMem
import Derived.Test.YtpggnfpjjppbmaaBP
set_option maxRecDepth 100000
namespace Go.Proofs.Ytpggnfpjjppbmaa
open Go.RowKit
/-- 'Low': a number, from 0 to below n. -/
def low (x n : Int) : Int := (x % 18446744073709551616) % n
theorem low_lt (x : Int) {n : Int} (h : 1 ≤ n) : 0 ≤ low x n ∧ low x n < n := ⟨Int.emod_nonneg _ (by omega), Int.emod_lt_of_pos _ (by omega)⟩
theorem low_eq (x n : Int) (h1 : 1 ≤ n) (h2 : n ≤ 1000000) : wrap64 ((IntKind.u64.wrap x).tmod n) = low x n := by
  have hu : IntKind.u64.wrap x = x % 18446744073709551616 := by simp [IntKind.wrap, IntKind.signed, IntKind.bits]
  have hnn : 0 ≤ x % 18446744073709551616 := by omega
  rw [hu, Int.tmod_eq_emod_of_nonneg hnn]
  have := low_lt x h1
  unfold low at *
  unfold wrap64
  omega
set_option maxHeartbeats 400000 in
theorem Low_any (x n : Int) (w : World) (h1 : 1 ≤ n) (h2 : n ≤ 1000000) :
    Calls Try.prog 21 #[.int .i64 x, .int .i64 n] w fun e w' => e = .returned (.int .i64 (low x n)) ∧ w = w' := by
  have HE := Lib.hid (low_eq x n h1 h2)
  go_enter Try.func21, Try.ntmps21
  go_wp2
  go_ret
  exact ⟨ret_int HE.out, rfl⟩
end Go.Proofs.Ytpggnfpjjppbmaa
set_option maxRecDepth 100000
namespace Go.Proofs.Ytpggnfpjjppbmaa
open Go.RowKit
theorem conv_digit (W : World) (n : Nat) (z : Int) (hz : z = n) : (convert 34 9 (.slice (some ⟨W.heap.size, 0, none⟩) 1 1)).run Try.prog (W.alloc (.cells #[.int .u8 (48 + z % 10)] 5)) = .ok (.string ⟨([UInt8.ofNat (48 + n % 10)]).toArray⟩) (W.alloc (.cells #[.int .u8 (48 + z % 10)] 5)) := by
  subst hz
  refine conv_own (B := W.heap.size) (n := 1) Try.underlying34 Try.underlying5 Try.underlying9 ?_
  refine ⟨rfl, .inr ⟨W.heap.size, 1, _, rfl, Nat.le_refl _, heap_alloc_new W _, by decide, by decide, rfl, ?_⟩⟩
  simp [bcells]
  omega
def DgRel (R : Str) (W0 : World) (q p : Value) (wr : World) : Prop := ∃ (m : Nat) (s : Str), m ≤ 10000 ∧ s.length + m ≤ 20000 ∧ q = .int .i64 m ∧ p = .string ⟨(s).toArray⟩ ∧ Below W0.heap.size W0 wr ∧ Hid ((if m < 10 then [] else Lib.decDigits (m / 10)) ++ s = R)
theorem digits_step (m : Nat) : (if m < 10 then [] else Lib.decDigits (m / 10)) ++ [UInt8.ofNat (48 + m % 10)] = Lib.decDigits m := by
  rw [Lib.decDigits.eq_1 m]
  by_cases h : m < 10
  · rw [if_pos h, dif_pos h, Nat.mod_eq_of_lt h]; rfl
  · rw [if_neg h, dif_neg h]
set_option maxHeartbeats 1000000 in
theorem Digits_any (n : Nat) (w : World) (hn : n ≤ 10000) :
    Calls Try.prog 22 #[.int .i64 n] w fun e w' => e = .returned (.string ⟨(Lib.decDigits n).toArray⟩) ∧ Below w.heap.size w w' := by
  generalize hR : Lib.decDigits n = R
  have HR := Lib.hid hR
  clear hR
  have hc := conv_digit w n n rfl
  go_enter Try.func22, Try.ntmps22
  go_wp2
  go_loopw [0, 3] (fun q p wr => DgRel R w q p wr) (fun q _ _ => (intOf q).toNat)
  case atStart => exact ⟨n, [UInt8.ofNat (48 + n % 10)], by omega, by simp; omega, rfl, by simp, (Below.refl _ _).alloc (Nat.le_refl _) _, Lib.hid (by rw [← HR.out]; exact digits_step n)⟩
  case round =>
    obtain ⟨m, s, hm, hs, rfl, rfl, hb, HF⟩ := hrel
    have hc2 := conv_digit wr (m / 10) ((m : Int) / 10) (by omega)
    have hB := hb.size
    by_cases h9 : m < 10
    · have HE : Hid (R = s) := Lib.hid (by rw [← HF.out, if_pos h9]; rfl)
      have g9 : decide ((10 : Int) ≤ m) = false := by rw [decide_eq_false_iff_not]; omega
      go_wp2
      go_ret
      exact ⟨ret_str HE.out.symm, hb⟩
    · have HE : Hid (Lib.decDigits (m / 10) ++ s = R) := Lib.hid (by rw [← HF.out, if_neg h9])
      go_wp2
      go_roundw
      case rel => exact ⟨m / 10, UInt8.ofNat (48 + m / 10 % 10) :: s, by omega, by simp; omega, by go_num, by simp, hb.alloc hB _, Lib.hid (by rw [← HE.out, ← digits_step (m / 10)]; simp)⟩
      case measure => simp [intOf]; omega
end Go.Proofs.Ytpggnfpjjppbmaa
