/- walk of rxset.May -/
import Derived.Test.YtemophfieihgaaaR1
import Derived.Test.YtemophfieihgaaaExt
set_option maxRecDepth 100000
namespace Go.Proofs.Ytemophfieihgaaa
open Go.RowKit
theorem row_eq {f t : Str} {b : Bool} (w : World) (h : rowB (f, t) = b) (hf : f.length ≤ 100000000) (ht : t.length ≤ 100000000) :
    Calls Try.prog 56 #[.agg #[.string ⟨(f).toArray⟩, .string ⟨(t).toArray⟩]] w fun e w' => e = .returned (.bool b) ∧ Below w.heap.size w w' := by
  subst h
  exact row_any f t w hf ht
theorem row_kept {f t : Str} {b : Bool} (w : World) (h : rowB (f, t) = b) (hf : f.length ≤ 100000000) (ht : t.length ≤ 100000000) :
    Calls Try.prog 56 #[.agg #[.string ⟨(f).toArray⟩, .string ⟨(t).toArray⟩]] w fun e w' => e = .returned (.bool b) ∧ Below w.heap.size w w' ∧ ∀ a u, w.cell? a = some u → w'.cell? a = some u := by
  subst h
  exact (row_any f t w hf ht).mono fun _ _ ⟨h1, h2⟩ => ⟨h1, h2, cell_kept h2⟩
def MayRel (rs : List (Str × Str)) (R : Bool) (w : World) (q : Value) (wr : World) : Prop :=
  ∃ (k : Nat) (p : Option Str), k ≤ rs.length ∧ q = .int .i64 k ∧ Below w.heap.size w wr ∧ Hid ((k = 0 ∧ p = none) ∨ ∃ j r, k = j + 1 ∧ rs[j]? = some r ∧ p = some r.2) ∧ Hid (rowsL p (rs.drop k) = R)
end Go.Proofs.Ytemophfieihgaaa
