/- A number's decimal digits. -/
import Derived.Test.YtpggnfpjjppbmaaDoorBase
import Derived.Lib.ItoaMem
set_option maxRecDepth 100000
namespace Go.Proofs.YtpggnfpjjppbmaaDoor
def dec (n : Int) : Str := Lib.decDigits n.toNat
theorem nDigits_le {u : Nat} (h : u ≤ 9999) : 1 ≤ Lib.nDigits u ∧ Lib.nDigits u ≤ 4 := by
  have h1 : ∀ v, v < 10 → Lib.nDigits v = 1 := fun v hv => by rw [Lib.nDigits, dif_pos hv]
  have h2 : ∀ v, ¬ v < 10 → Lib.nDigits v = Lib.nDigits (v / 10) + 1 := fun v hv => by rw [Lib.nDigits, dif_neg hv]
  by_cases a : u < 10
  · rw [h1 u a]; omega
  · rw [h2 u a]
    by_cases b : u / 10 < 10
    · rw [h1 _ b]; omega
    · rw [h2 _ b]
      by_cases c : u / 10 / 10 < 10
      · rw [h1 _ c]; omega
      · rw [h2 _ c, h1 _ (by omega)]; omega
theorem dec_len {n : Int} (h0 : 0 ≤ n) (h : n ≤ 9999) : 1 ≤ (dec n).length ∧ (dec n).length ≤ 4 := by
  unfold dec; rw [Lib.decDigits_length]; exact nDigits_le (by omega)
end Go.Proofs.YtpggnfpjjppbmaaDoor
