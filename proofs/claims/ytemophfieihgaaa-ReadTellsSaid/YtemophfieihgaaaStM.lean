/- The models of slices.stableCmpFunc, SortStableFunc. -/
import Derived.Test.YtemophfieihgaaaSymM
import Derived.Test.YtemophfieihgaaaE3
set_option maxRecDepth 100000
namespace Go.Proofs.Ytemophfieihgaaa
def stA : Nat → List Row → Nat → Nat → List Row
  | 0, rs, _, _ => rs
  | k + 1, rs, a, n => if a + 20 ≤ n then stA k (insOut a (a + 20 - (a + 1)) (a + 1) rs) (a + 20) n else insOut a (n - (a + 1)) (a + 1) rs
def stB : Nat → List Row → Nat → Nat → Nat → List Row
  | 0, rs, _, _, _ => rs
  | k + 1, rs, a, s, n => if a + 2 * s ≤ n then stB k (symM (2 * s) rs a (a + s) (a + 2 * s)) (a + 2 * s) s n else if a + s < n then symM (n - a) rs a (a + s) n else rs
def stC : Nat → List Row → Nat → Nat → List Row
  | 0, rs, _, _ => rs
  | k + 1, rs, s, n => if s < n then stC k (stB (n + 1) rs 0 s n) (2 * s) n else rs
def stL (rs : List Row) : List Row := stC (rs.length + 1) (stA (rs.length + 1) rs 0 rs.length) 20 rs.length
theorem stA_len : ∀ (k : Nat) (rs : List Row) (a n : Nat), (stA k rs a n).length = rs.length
  | 0, _, _, _ => rfl
  | k + 1, rs, a, n => by
    simp only [stA]
    split
    · rw [stA_len k, insOut_len]
    · rw [insOut_len]
theorem stB_len : ∀ (k : Nat) (rs : List Row) (a s n : Nat), (stB k rs a s n).length = rs.length
  | 0, _, _, _, _ => rfl
  | k + 1, rs, a, s, n => by
    simp only [stB]
    split
    · rw [stB_len k, symM_len]
    · split
      · rw [symM_len]
      · rfl
theorem stC_len : ∀ (k : Nat) (rs : List Row) (s n : Nat), (stC k rs s n).length = rs.length
  | 0, _, _, _ => rfl
  | k + 1, rs, s, n => by
    simp only [stC]
    split
    · rw [stC_len k, stB_len]
    · rfl
theorem snoc_cases (A : List Row) : A = [] ∨ ∃ B y, A = B ++ [y] := by
  rcases List.eq_nil_or_concat A with h | ⟨B, y, h⟩
  · exact .inl h
  · exact .inr ⟨B, y, by simpa using h⟩
end Go.Proofs.Ytemophfieihgaaa
