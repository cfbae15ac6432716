/- strings.IndexByte -/
import Derived.Test.YtpggnfpjjppbmaaDoorBase
import Derived.Lib.Bytealg
set_option maxRecDepth 100000
namespace Go.Proofs.YtpggnfpjjppbmaaDoor
open Go.RowKit
theorem stringslite_IndexByte (l : Str) (c : Int) (w : World) :
    Calls Tryd.prog 67 #[.string ⟨(l).toArray⟩, .int .u8 c] w fun e w' => e = .returned (.int .i64 (Lib.indexByte l c.toNat.toUInt8)) ∧ w = w' := by
  go_enter Tryd.func67, Tryd.ntmps67
  go_wp2
  rw [run_callFunc_extern Tryd.func79 (by kernel_rfl) (by kernel_rfl) (by kernel_rfl) (e := Extern.BytealgIndexByte.indexByte) (by kernel_rfl), Lib.run_indexByteString]
  simp only [Result.andThen]
  rw [Oper.upon_value]
  go_wp2
  go_ret
  exact ⟨rfl, rfl⟩
theorem strings_IndexByte (l : Str) (c : Int) (w : World) :
    Calls Tryd.prog 53 #[.string ⟨(l).toArray⟩, .int .u8 c] w fun e w' => e = .returned (.int .i64 (Lib.indexByte l c.toNat.toUInt8)) ∧ w = w' := by
  go_enter Tryd.func53, Tryd.ntmps53
  go_wp2_with (go_at_call 67; refine (stringslite_IndexByte _ _ _).mono ?_; rintro e w1 ⟨rfl, rfl⟩)
  go_ret
  exact ⟨rfl, rfl⟩
theorem idx_ge (l : Str) (c : UInt8) : 0 ≤ Lib.indexByte l c ↔ l.contains c = true := by
  induction l with
  | nil => simp [Lib.indexByte]
  | cons b l ih =>
    have := Lib.indexByte_ge l c
    unfold Lib.indexByte
    rw [List.contains_cons, Bool.or_eq_true, ← ih]
    by_cases h : b = c
    · simp [h]
    · have h' : (b == c) = false := by simpa using h
      have h'' : ¬ (c == b) = true := by simpa using (fun e => h e.symm)
      rw [h', if_neg (by simp)]
      by_cases h1 : Lib.indexByte l c = -1
      · simp [h1]; exact fun e => h e.symm
      · have h2 : ¬ (Lib.indexByte l c == -1) = true := by simpa using h1
        rw [if_neg h2]; simp [h'']; omega
theorem idx_dec (l : Str) (c : UInt8) : decide (0 ≤ Lib.indexByte l c) = l.contains c := by
  rw [Bool.eq_iff_iff, decide_eq_true_iff]; exact idx_ge l c
theorem IndexByte_eq {l : Str} {c k : Int} (w : World) (h : Lib.indexByte l c.toNat.toUInt8 = k) :
    Calls Tryd.prog 53 #[.string ⟨(l).toArray⟩, .int .u8 c] w fun e w' => e = .returned (.int .i64 k) ∧ w = w' := by
  subst h; exact strings_IndexByte l c w
theorem idx_hit {th : Str} {c : UInt8} (h : th.contains c = true) : ∃ k : Nat, Lib.indexByte th ((c.toNat : Int)).toNat.toUInt8 = (k : Int) := by
  have h1 := (idx_ge th c).2 h
  rw [show ((c.toNat : Int)).toNat.toUInt8 = c by simp]
  exact Int.eq_ofNat_of_zero_le h1
theorem idx_miss {th : Str} {c : UInt8} (h : ¬ th.contains c = true) : Lib.indexByte th ((c.toNat : Int)).toNat.toUInt8 = -1 := by
  rw [show ((c.toNat : Int)).toNat.toUInt8 = c by simp]
  have h1 := Lib.indexByte_ge th c
  have h2 : ¬ 0 ≤ Lib.indexByte th c := fun h3 => h ((idx_ge th c).1 h3)
  omega
end Go.Proofs.YtpggnfpjjppbmaaDoor
