/- walks of rxtree: bare, repeated, group; of slices: Index, Contains -/
import Derived.Test.YtemophfieihgaaaR2
set_option maxRecDepth 100000
namespace Go.Proofs.Ytemophfieihgaaa
open Go.RowKit
def bareV (c : Str) (ng : Bool) (rn : Nat) (lo hi : Int) (lz : Bool) : Bool := decide (c = []) && !ng && decide (rn = 0) && decide (lo = 0) && decide (hi = 0) && !lz
def icells (zs : List Int) : List Value := zs.map fun z => .int .i64 z
theorem Sl.int_ {w : World} {B : Nat} {a : Option Addr} {n : Nat} {zs : List Int} (h : Sl w B a 1 n (icells zs)) {k : Nat} {z : Int} (hk : zs[k]? = some z) :
    ∃ b o, a = some ⟨b, o, none⟩ ∧ b < B ∧ w.cell? ⟨b, o + k, none⟩ = some (.int .i64 z) := by
  have hlt := (List.getElem?_eq_some_iff.1 hk).1
  have hn : n = zs.length := by have := h.1; simp [icells] at this; omega
  obtain ⟨b, o, h1, h2, h3⟩ := h.2 (by omega)
  exact ⟨b, o, h1, h2, h3 k _ (by simp [icells, hk])⟩
theorem Sl.int_len {w : World} {B : Nat} {a : Option Addr} {n : Nat} {zs : List Int} (h : Sl w B a 1 n (icells zs)) : n = zs.length := by
  have := h.1; simp [icells] at this; omega
def IdxPost (b : Bool) (e : Ending) : Prop := ∃ r : Int, e = .returned (.int .i64 r) ∧ -1 ≤ r ∧ (decide (0 ≤ r) = b)
end Go.Proofs.Ytemophfieihgaaa
