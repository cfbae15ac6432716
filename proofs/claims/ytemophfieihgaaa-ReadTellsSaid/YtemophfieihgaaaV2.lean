/- walk of rxset.Union: its first loop's end · walk of rxset.Union -/
import Derived.Test.YtemophfieihgaaaVM
import Derived.Test.YtemophfieihgaaaC4
import Derived.Test.YtemophfieihgaaaR1
set_option maxRecDepth 100000
namespace Go.Proofs.Ytemophfieihgaaa
open Go.RowKit
theorem ext_wf {w : World} {B : Nat} {v : Value} {n : Nat} {xs : List Value} (h : w.ownsRow B 47 2 v n xs) (b : World) (hb : Below w.heap.size w b) : b.ownsRow B 47 2 v n xs := own_below h hb
theorem rcells_snoc (l : List Row) (r : Row) : rcells (l ++ [r]) = rcells l ++ [.string ⟨(r.1).toArray⟩, .string ⟨(r.2).toArray⟩] := by simp [rcells]
def U1Rel (rs : List Row) (w : World) (v q : Value) (wr : World) : Prop :=
  ∃ i : Nat, i ≤ rs.length ∧ q = .int .i64 i ∧ Below w.heap.size w wr ∧ wr.ownsRow w.heap.size 47 2 v (filR (rs.take i)).length (rcells (filR (rs.take i)))
def U2Rel (ss : List Row) (a : Option Addr) (w : World) (v q : Value) (wr : World) : Prop :=
  ∃ i : Nat, i ≤ ss.length ∧ q = .int .i64 i ∧ Below w.heap.size w wr ∧ wr.ownsRow w.heap.size 47 2 v (mrgL (ss.take i)).length (rcells (mrgL (ss.take i))) ∧ SlS wr (fun b => v.ownBlock ≠ some b) a 2 ss.length (rcells ss)
theorem run_max_S {P : Program} (w : World) (ts : Array TypeId) (t : TypeId) (x y : Str) : (Builtin.max_ ts t #[.string ⟨(x).toArray⟩, .string ⟨(y).toArray⟩]).run P w = .ok (.string ⟨(mxS x y).toArray⟩) w := by
  unfold mxS
  cases h : Op.bytesLess x y <;> simp [Builtin.max_, Builtin.max2, Op.stringOp, asBool, h]
theorem src_app {w w' : World} {v v' : Value} {a : Option Addr} {sz n : Nat} {cs : List Value} (h : SlS w (fun b => v.ownBlock ≠ some b) a sz n cs) (hg : w.grownBy w' v.ownBlock) (hm : Moved w v v') :
    SlS w' (fun b => v'.ownBlock ≠ some b) a sz n cs := by
  have h1 : SlS w (fun b => v.ownBlock ≠ some b ∧ b < w.heap.size) a sz n cs := h.mono fun b h1 h2 => ⟨h1, h2⟩
  have h2 := h1.keep (w' := w') ⟨hg.size, fun b hb hlt => hg.block b hlt (by first | exact hb.1 | exact fun e => hb.1 e.symm)⟩
  refine h2.mono fun b hb _ => ?_
  rcases hm with e | e
  · rw [e]; exact hb.1
  · intro h3; have := e b h3; omega
theorem own_setTo {w : World} {B g cap : Nat} {L : List Row} {q : Row} {n : Nat} (h : w.ownsRow B 47 2 (.slice (some ⟨g, 0, none⟩) n cap) n (rcells (L ++ [q]))) (t : Str) :
    (w.setCell ⟨g, L.length * 2 + 1, none⟩ (.string ⟨(t).toArray⟩)).ownsRow B 47 2 (.slice (some ⟨g, 0, none⟩) n cap) n (rcells (L ++ [(q.1, t)])) := by
  have h1 := (h.stored (L.length * 2 + 1) (.string ⟨(t).toArray⟩)).1
  have e : (rcells (L ++ [q])).set (L.length * 2 + 1) (.string ⟨(t).toArray⟩) = rcells (L ++ [(q.1, t)]) := by
    rw [rcells_snoc, rcells_snoc, List.set_append_right _ _ (by rw [rcells_length]; omega), rcells_length, show L.length * 2 + 1 - L.length * 2 = 1 by omega]; rfl
  rw [e] at h1; exact h1
theorem own_at {w : World} {B g cap : Nat} {L : List Row} {q : Row} {n : Nat} (h : w.ownsRow B 47 2 (.slice (some ⟨g, 0, none⟩) n cap) n (rcells (L ++ [q]))) :
    w.cell? ⟨g, L.length * 2, none⟩ = some (.string ⟨(q.1).toArray⟩) ∧ w.cell? ⟨g, L.length * 2 + 1, none⟩ = some (.string ⟨(q.2).toArray⟩) ∧ ∀ j, w.frozen? ⟨g, j, none⟩ = false := by
  obtain ⟨c1, c2⟩ := rcells_at (rs := L ++ [q]) (k := L.length) (r := q) (by simp)
  have hl : L.length + 1 = n := by have := h.1; rw [rcells_length, List.length_append, List.length_singleton] at this; omega
  exact ⟨by rw [h.cellAt _ (by omega)]; exact c1, by rw [h.cellAt _ (by omega)]; exact c2, fun j => h.frozenAt j⟩
end Go.Proofs.Ytemophfieihgaaa
namespace Go.Proofs.Ytemophfieihgaaa
open Go.RowKit
theorem insertion_nil (f : Value) (w : World) : Calls Try.prog 65 #[.slice none 0 0, .int .i64 0, .int .i64 0, f] w fun e w' => e = .returned (.tuple #[]) ∧ w' = w := by
  go_enter Try.func65, Try.ntmps65
  go_wp2
  go_loopw [8] (fun q wr => q = .int .i64 1 ∧ wr = w) (fun _ _ => 0)
  case atStart => exact ⟨rfl, rfl⟩
  case round =>
    obtain ⟨rfl, rfl⟩ := hrel
    go_wp2
    go_end0
    exact ⟨rfl, rfl⟩
theorem SortStable_nil (w : World) :
    Calls Try.prog 57 #[.slice none 0 0, .func (.func 58) #[] #[]] w fun e w' => e = .returned (.tuple #[]) ∧ w' = w := by
  have hst : Calls Try.prog 63 #[.slice none 0 0, .int .i64 0, .func (.func 58) #[] #[]] w fun e w' => e = .returned (.tuple #[]) ∧ w' = w := by
    go_enter Try.func63, Try.ntmps63
    go_wp2
    go_loopw [7, 8] (fun p q wr => p = .int .i64 0 ∧ q = .int .i64 20 ∧ wr = w) (fun _ _ _ => 0)
    case atStart => exact ⟨rfl, rfl, rfl⟩
    case round =>
      obtain ⟨rfl, rfl, rfl⟩ := hrel
      go_wp2_with (go_at_call 65; refine (insertion_nil _ _).mono ?_)
      rintro e w1 ⟨rfl, hw1⟩
      subst hw1
      obtain ⟨wo, hwo⟩ : ∃ wo : World, wo = w1 := ⟨_, rfl⟩
      rw [← hwo]
      go_wp2
      go_loopw [6] (fun q wr => q = .int .i64 20 ∧ wr = wo) (fun _ _ => 0)
      case atStart => exact ⟨rfl, hwo.symm⟩
      case round =>
        obtain ⟨rfl, rfl⟩ := hrel
        go_wp2
        go_end0
        exact ⟨rfl, rfl⟩
  go_enter Try.func57, Try.ntmps57
  go_wp2_with (go_at_call 63; refine hst.mono ?_; rintro e w1 ⟨rfl, rfl⟩)
  go_end0
  exact ⟨rfl, rfl⟩
end Go.Proofs.Ytemophfieihgaaa
