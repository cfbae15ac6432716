/- walks of rxtree: some, fields -/
import Derived.Test.YtemophfieihgaaaR3
set_option maxRecDepth 100000
namespace Go.Proofs.Ytemophfieihgaaa
open Go.RowKit
/-- The cells of a part, told field by field, that lie at a place. -/
def anyK (xs : List Rx) (zs : List Int) : Bool := xs.any fun x => zs.contains x.kind
def SmRel (xs : List Rx) (zs : List Int) (R : Bool) (w : World) (q : Value) (wr : World) : Prop :=
  ∃ k : Nat, k ≤ xs.length ∧ q = .int .i64 k ∧ Below w.heap.size w wr ∧ Hid (anyK (xs.drop k) zs = R)
end Go.Proofs.Ytemophfieihgaaa
