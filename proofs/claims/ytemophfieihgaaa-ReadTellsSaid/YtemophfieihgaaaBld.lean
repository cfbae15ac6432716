/- strings.Builder: what each of its methods leaves, with the blocks that stay as they were. -/
import Derived.Test.YtemophfieihgaaaBase
import Derived.Lib.Builder
import Derived.Lib.AppendStr
import Derived.Lib.UnsafeStr
import Derived.Laws.Externs
set_option maxRecDepth 100000
namespace Go.Proofs.Ytemophfieihgaaa
open Go.RowKit

/-- The type that a block's cells have. -/
def tagOf (w : World) (k : Nat) : Option TypeId := match w.heap[k]? with | some (.cells _ e _) => some e | _ => none
/-- What a block was, it still is: but for the blocks gs, and those from B on whose cells are of one of the types es. -/
structure Fr (B : Nat) (gs : List Nat) (es : List TypeId) (w w' : World) : Prop where
  os : w'.os = w.os
  tape : w'.tape = w.tape
  output : w'.output = w.output
  size : w.heap.size ≤ w'.heap.size
  block : ∀ k, k < w.heap.size → k ∉ gs → (k < B ∨ ∀ e ∈ es, tagOf w k ≠ some e) → w'.heap[k]? = w.heap[k]?
theorem Fr.refl (B gs es w) : Fr B gs es w w := ⟨rfl, rfl, rfl, Nat.le_refl _, fun _ _ _ _ => rfl⟩
theorem Fr.trans {B gs es} {a b c : World} (h : Fr B gs es a b) (k : Fr B gs es b c) : Fr B gs es a c :=
  ⟨k.os.trans h.os, k.tape.trans h.tape, k.output.trans h.output, Nat.le_trans h.size k.size, fun i hi hg ht => by
    have h1 := h.block i hi hg ht
    refine (k.block i (Nat.lt_of_lt_of_le hi h.size) hg ?_).trans h1
    unfold tagOf at ht ⊢; rw [h1]; exact ht⟩
theorem Fr.below {B gs es} {w w' : World} (h : Fr B gs es w w') (hB : B ≤ w.heap.size) (hg : ∀ g ∈ gs, B ≤ g) : Below B w w' :=
  ⟨h.os, h.tape, h.output, h.size, fun k hk => h.block k (by omega) (fun hm => by have := hg k hm; omega) (.inl hk)⟩
theorem Fr.of_below {B C gs es} {w w' : World} (h : Below C w w') (hC : w.heap.size ≤ C) : Fr B gs es w w' :=
  ⟨h.os, h.tape, h.output, h.size, fun k hk _ _ => h.block k (by omega)⟩
theorem Fr.alloc {B gs es} {a w : World} (h : Fr B gs es a w) (o : Obj) : Fr B gs es a (w.alloc o) :=
  h.trans ⟨rfl, rfl, rfl, by simp, fun k hk _ _ => Below.heap_alloc _ _ _ hk⟩
theorem Fr.drew {B gs es} {a w : World} (h : Fr B gs es a w) : Fr B gs es a w.drew := ⟨h.os, h.tape, h.output, h.size, h.block⟩
theorem Fr.drewN {B gs es} {a w : World} (h : Fr B gs es a w) (n : Nat) : Fr B gs es a (w.drewN n) := ⟨h.os, h.tape, h.output, h.size, h.block⟩
theorem Fr.setCell {B gs es} {a w : World} (h : Fr B gs es a w) {p : Addr} (hp : p.block ∈ gs) (u : Value) : Fr B gs es a (w.setCell p u) :=
  h.trans ⟨rfl, rfl, rfl, by simp [World.setCell], fun k _ hk _ => Below.heap_setCell _ _ _ _ (fun e => hk (e ▸ hp))⟩
theorem tagOf_own {w : World} {B : Nat} {e : TypeId} {sz : Nat} {v : Value} {n : Nat} {xs : List Value} (h : w.ownsRow B e sz v n xs) {k : Nat} (hk : v.ownBlock = some k) : B ≤ k ∧ tagOf w k = some e := by
  rcases h.2 with ⟨rfl, _⟩ | ⟨g, cap, cur, rfl, hb, hg, _⟩
  · simp [Value.ownBlock] at hk
  · simp [Value.ownBlock] at hk; subst hk; exact ⟨hb, by simp [tagOf, hg]⟩
theorem Fr.grown {B gs es} {a w w' : World} (h : Fr B gs es a w) {e : TypeId} {sz : Nat} {v : Value} {n : Nat} {xs : List Value} (hown : w.ownsRow B e sz v n xs) (he : e ∈ es) (hg : w.grownBy w' v.ownBlock) : Fr B gs es a w' :=
  h.trans ⟨hg.os, hg.tape, hg.output, hg.size, fun k hk _ ht => hg.block k hk (fun e' => by
    obtain ⟨h1, h2⟩ := tagOf_own hown e'.symm
    rcases ht with ht | ht
    · omega
    · exact ht e he h2)⟩
theorem Fr.mono {B gs es gs' es'} {w w' : World} (h : Fr B gs es w w') (hg : ∀ g ∈ gs, g ∈ gs') (he : ∀ e ∈ es, e ∈ es') : Fr B gs' es' w w' :=
  ⟨h.os, h.tape, h.output, h.size, fun k hk hn ht => h.block k hk (fun hm => hn (hg k hm)) (ht.imp id fun f e hm => f e (he e hm))⟩
theorem heap_lt {w : World} {k : Nat} {o : Obj} (h : w.heap[k]? = some o) : k < w.heap.size := by
  rcases Nat.lt_or_ge k w.heap.size with h1 | h1
  · exact h1
  · rw [Array.getElem?_eq_none h1] at h; cases h

end Go.Proofs.Ytemophfieihgaaa
