/- A slice in memory that reads as cells; a text among them. -/
import Derived.Test.YtemophfieihgaaaBld
set_option maxRecDepth 100000
namespace Go.Proofs.Ytemophfieihgaaa
open Go.RowKit
/-- A slice of n elements, of sz cells each, that reads as the cells cs; below block B. -/
def Sl (w : World) (B : Nat) (a : Option Addr) (sz n : Nat) (cs : List Value) : Prop :=
  cs.length = n * sz ∧ (0 < n → ∃ b o, a = some ⟨b, o, none⟩ ∧ b < B ∧ ∀ (j : Nat) (u : Value), cs[j]? = some u → w.cell? ⟨b, o + j, none⟩ = some u)
theorem Sl.keep {w w' : World} {B : Nat} {a : Option Addr} {sz n : Nat} {cs : List Value} (h : Sl w B a sz n cs) (hb : Below B w w') : Sl w' B a sz n cs :=
  ⟨h.1, fun hn => by
    obtain ⟨b, o, h1, h2, h3⟩ := h.2 hn
    exact ⟨b, o, h1, h2, fun j u hu => (hb.cell (p := ⟨b, o + j, none⟩) h2).trans (h3 j u hu)⟩⟩
theorem Sl.mono {w : World} {B B' : Nat} {a : Option Addr} {sz n : Nat} {cs : List Value} (h : Sl w B a sz n cs) (hB : B ≤ B') : Sl w B' a sz n cs :=
  ⟨h.1, fun hn => by
    obtain ⟨b, o, h1, h2, h3⟩ := h.2 hn
    exact ⟨b, o, h1, by omega, h3⟩⟩
theorem Sl.none_ (w : World) (B : Nat) (a : Option Addr) (sz : Nat) : Sl w B a sz 0 [] := ⟨by simp, fun h => by omega⟩
theorem Sl.of_own {w : World} {B0 : Nat} {e : TypeId} {sz : Nat} {a : Option Addr} {n c : Nat} {xs : List Value} (h : w.ownsRow B0 e sz (.slice a n c) n xs) : Sl w w.heap.size a sz n xs := by
  refine ⟨h.1, fun hn => ?_⟩
  rcases h.2 with ⟨hv, h0⟩ | ⟨g, cap, cur, hv, hb, hg, r⟩
  · omega
  · injection hv with ha _ _
    subst ha
    refine ⟨g, 0, rfl, heap_lt hg, fun j u hu => ?_⟩
    have := h.cells (g := g) rfl j u hu
    have hadd : (⟨g, 0, none⟩ : Addr).add j = ⟨g, 0 + j, none⟩ := by unfold Addr.add; split <;> simp_all
    rw [hadd] at this; exact this
theorem Sl.lit {w : World} {g sz n : Nat} {cs : Array Value} {t : TypeId} {m : Nat × Nat} (h : w.heap[g]? = some (.cells cs t m)) (hn : cs.size = n * sz) : Sl w w.heap.size (some ⟨g, 0, none⟩) sz n cs.toList := by
  refine ⟨by simpa using hn, fun _ => ⟨g, 0, rfl, heap_lt h, fun j u hu => ?_⟩⟩
  rw [Lib.cell_of_heap h]; simpa using hu
theorem Sl.alloc_self {w : World} {a : Option Addr} {sz n : Nat} {cs : List Value} (h : Sl w w.heap.size a sz n cs) (o : Obj) : Sl (w.alloc o) (w.alloc o).heap.size a sz n cs :=
  (h.keep ((Below.refl _ _).alloc (Nat.le_refl _) o)).mono (by simp)
theorem ldrop_cons {α : Type} {l r : List α} {i : Nat} {c : α} (h : l.drop i = c :: r) : i < l.length ∧ l[i]? = some c ∧ l.drop (i + 1) = r := by
  have hi : i < l.length := by
    rcases Nat.lt_or_ge i l.length with h1 | h1
    · exact h1
    · rw [List.drop_of_length_le h1] at h; cases h
  rw [List.drop_eq_getElem_cons hi] at h
  injection h with h1 h2
  exact ⟨hi, by rw [List.getElem?_eq_getElem hi, h1], h2⟩
theorem bcell {W w1 : World} (hb : Below W.heap.size W w1) : (∀ b o, b < W.heap.size → w1.cell? ⟨b, o, none⟩ = W.cell? ⟨b, o, none⟩) ∧ (∀ b o, b < W.heap.size → w1.frozen? ⟨b, o, none⟩ = W.frozen? ⟨b, o, none⟩) :=
  ⟨fun b o h => hb.cell (p := ⟨b, o, none⟩) h, fun b o h => hb.frozen (p := ⟨b, o, none⟩) h⟩
def scells (ps : List Str) : List Value := ps.map fun p => .string ⟨(p).toArray⟩
theorem Sl.str {w : World} {B : Nat} {a : Option Addr} {n : Nat} {ps : List Str} (h : Sl w B a 1 n (scells ps)) {k : Nat} {p : Str} (hk : ps[k]? = some p) :
    ∃ b o, a = some ⟨b, o, none⟩ ∧ b < B ∧ w.cell? ⟨b, o + k, none⟩ = some (.string ⟨(p).toArray⟩) := by
  have hlt := (List.getElem?_eq_some_iff.1 hk).1
  have hn : n = ps.length := by have := h.1; simp [scells] at this; omega
  obtain ⟨b, o, h1, h2, h3⟩ := h.2 (by omega)
  exact ⟨b, o, h1, h2, h3 k _ (by simp [scells, hk])⟩
theorem Sl.str_len {w : World} {B : Nat} {a : Option Addr} {n : Nat} {ps : List Str} (h : Sl w B a 1 n (scells ps)) : n = ps.length := by
  have := h.1; simp [scells] at this; omega
theorem cell_kept {w w' : World} (hb : Below w.heap.size w w') (a : Addr) (u : Value) (h : w.cell? a = some u) : w'.cell? a = some u :=
  (hb.cell (World.block_lt_of_cell? w a h)).trans h
theorem cell_kept2 {B : Nat} {w w' : World} (hb : Below B w w') (hB : w.heap.size ≤ B) {a : Addr} {u : Value} (h : w.cell? a = some u) : w'.cell? a = some u :=
  (hb.cell (Nat.lt_of_lt_of_le (World.block_lt_of_cell? w a h) hB)).trans h
end Go.Proofs.Ytemophfieihgaaa
