/- symM: what slices.symMergeCmpFunc computes, told plainly. -/
import Derived.Test.YtemophfieihgaaaE5
set_option maxRecDepth 100000
namespace Go.Proofs.Ytemophfieihgaaa
theorem rotL_len : ∀ (k : Nat) (rs : List Row) (m i j : Nat), (rotL k rs m i j).length = rs.length
  | 0, _, _, _, _ => rfl
  | k + 1, rs, m, i, j => by
    simp only [rotL]
    split
    · rw [swapN_len]
    · split
      · rw [rotL_len k, swapN_len]
      · rw [rotL_len k, swapN_len]
def sLo (a m b : Nat) : Nat := if (a + b) / 2 < m then (a + b) / 2 + m - b else a
def sHi (a m b : Nat) : Nat := if (a + b) / 2 < m then (a + b) / 2 else m
def symM : Nat → List Row → Nat → Nat → Nat → List Row
  | 0, rs, _, _, _ => rs
  | f + 1, rs, a, m, b =>
    if m = a + 1 then upSw rs a (bs (fun h => ltAt rs h a) b m b - 1 - a)
    else if b = m + 1 then dnSw (m - bs (fun h => !ltAt rs m h) m a m) rs m
    else
      let M := (a + b) / 2
      let s := bs (fun c => !ltAt rs (M + m - 1 - c) c) b (sLo a m b) (sHi a m b)
      let e := M + m - s
      let r1 := if s < m ∧ m < e then rotL (e - s) rs m (m - s) (e - m) else rs
      let r2 := if a < s ∧ s < M then symM f r1 a s M else r1
      if M < e ∧ e < b then symM f r2 M e b else r2
theorem symM_len : ∀ (f : Nat) (rs : List Row) (a m b : Nat), (symM f rs a m b).length = rs.length
  | 0, _, _, _, _ => rfl
  | f + 1, rs, a, m, b => by
    simp only [symM]
    have ih := symM_len f
    (repeat' split) <;> simp only [ih, rotL_len, upSw_len, dnSw_len]
def symT (f : Nat) (r1 : List Row) (a s M e b : Nat) : List Row :=
  if M < e ∧ e < b then symM f (if a < s ∧ s < M then symM f r1 a s M else r1) M e b else (if a < s ∧ s < M then symM f r1 a s M else r1)
theorem symM_one (f : Nat) (rs : List Row) (a b : Nat) : symM (f + 1) rs a (a + 1) b = upSw rs a (bs (fun h => ltAt rs h a) b (a + 1) b - 1 - a) := by
  rw [symM]; exact if_pos rfl
theorem symM_last {f : Nat} {rs : List Row} {a m : Nat} (h : ¬ m = a + 1) : symM (f + 1) rs a m (m + 1) = dnSw (m - bs (fun h => !ltAt rs m h) m a m) rs m := by
  rw [symM]; exact (if_neg h).trans (if_pos rfl)
theorem symM_gen {f : Nat} {rs : List Row} {a m b : Nat} (h1 : ¬ m = a + 1) (h2 : ¬ b = m + 1) :
    symM (f + 1) rs a m b = symT f (if bs (fun c => !ltAt rs ((a + b) / 2 + m - 1 - c) c) b (sLo a m b) (sHi a m b) < m ∧ m < (a + b) / 2 + m - bs (fun c => !ltAt rs ((a + b) / 2 + m - 1 - c) c) b (sLo a m b) (sHi a m b) then
      rotL ((a + b) / 2 + m - bs (fun c => !ltAt rs ((a + b) / 2 + m - 1 - c) c) b (sLo a m b) (sHi a m b) - bs (fun c => !ltAt rs ((a + b) / 2 + m - 1 - c) c) b (sLo a m b) (sHi a m b)) rs m (m - bs (fun c => !ltAt rs ((a + b) / 2 + m - 1 - c) c) b (sLo a m b) (sHi a m b)) ((a + b) / 2 + m - bs (fun c => !ltAt rs ((a + b) / 2 + m - 1 - c) c) b (sLo a m b) (sHi a m b) - m) else rs)
      a (bs (fun c => !ltAt rs ((a + b) / 2 + m - 1 - c) c) b (sLo a m b) (sHi a m b)) ((a + b) / 2) ((a + b) / 2 + m - bs (fun c => !ltAt rs ((a + b) / 2 + m - 1 - c) c) b (sLo a m b) (sHi a m b)) b := by
  rw [symM]; exact (if_neg h1).trans (if_neg h2)
end Go.Proofs.Ytemophfieihgaaa
