/- A region that draws its order, reads, and calls what makes new memory alone: one walk of the text's order. The class of worlds: those that extend the one where it begins. -/
import Derived.Test.YtemophfieihgaaaMem
import Derived.Deep.Quiet
import Derived.BigQuiet
set_option maxRecDepth 100000
namespace Go.Proofs.Ytemophfieihgaaa
open Go.RowKit
/-- A world that has w's blocks as they were, and perhaps more. -/
structure ExtOf (w : World) where
  val : World
  ext : Below w.heap.size w val
instance (w : World) : Nonempty (ExtOf w) := ⟨⟨w, Below.refl _ _⟩⟩
theorem wp_region_ext {P : Program} {id : Nat} {Q : Exit → Act → World → Prop} {a : Act} {w : World} {l : List Oper} (hm : P.follows .mixedOrders = true) (hB : Region.lexB .any l.toArray = true)
    (h : wpQuiet P l.toArray (fun w' => ∃ x : ExtOf w, w' = x.val) (fun a' => ∀ w', (∃ x : ExtOf w, w' = x.val) → Q .normal a' w') l a) : (Code.region id l.toArray true).wp P Q a w :=
  wp_region_quiet (C := fun w' => ∃ x : ExtOf w, w' = x.val) hm hB ⟨⟨w.drew, (Below.refl _ _).drew⟩, rfl⟩ (by simpa using h)
theorem ext_call {P : Program} {f : FuncId} {args : Array Value} {w : World} {x : ExtOf w} {v : Value} (h : Calls P f args x.val fun e w' => e = .returned v ∧ Below x.val.heap.size x.val w') :
    Calls P f args x.val fun e w'' => e = .returned v ∧ ∃ y : ExtOf w, w'' = y.val :=
  h.mono fun _ w' ⟨he, hb⟩ => ⟨he, ⟨w', x.ext.trans (hb.mono x.ext.size)⟩, rfl⟩
theorem ext_call_same {P : Program} {f : FuncId} {args : Array Value} {w : World} {x : ExtOf w} {v : Value} (h : Calls P f args x.val fun e w' => e = .returned v ∧ x.val = w') :
    Calls P f args x.val fun e w'' => e = .returned v ∧ ∃ y : ExtOf w, w'' = y.val :=
  h.mono fun _ _ ⟨he, hb⟩ => ⟨he, x, hb.symm⟩
theorem ExtOf.cell {w : World} {a : Addr} {u : Value} (h : w.cell? a = some u) (x : ExtOf w) : x.val.cell? a = some u :=
  (x.ext.cell (World.block_lt_of_cell? w a h)).trans h
end Go.Proofs.Ytemophfieihgaaa
