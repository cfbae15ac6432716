/- walk of rxread: class; what it needs -/
import Derived.Test.YtemophfieihgaaaX7
import Derived.Test.YtemophfieihgaaaE7
import Derived.Deep.LoopGhost
set_option maxRecDepth 100000
namespace Go.Proofs.Ytemophfieihgaaa
open Go.RowKit
def okC (r : List Str) : Prop := ∀ p ∈ r, p ≠ [] ∧ p.length ≤ 1000000
theorem RdT.ok {T : TypeId} {x : List Value} {w : World} {g : Nat} {r : List Str} (h : RdT T x w g r) : okC r ∧ r.length ≤ 200000 := by
  obtain ⟨a, k, l, i, _, _, h3, h4, h5, h6⟩ := h
  subst h6
  exact ⟨fun p hp => h5 p (List.mem_of_mem_drop hp), by simp; omega⟩
theorem okC.tail {c : Str} {r : List Str} (h : okC (c :: r)) : okC r := fun p hp => h p (List.mem_cons_of_mem _ hp)
theorem plainM_len {c t : Str} (h : plainM c = some t) : t.length ≤ c.length := by
  unfold plainM at h
  by_cases h0 : c = []
  · rw [if_pos h0] at h; cases h
  have hc : 1 ≤ c.length := List.length_pos_iff.2 h0
  rw [if_neg h0] at h
  by_cases h1 : c = [110]
  · rw [if_pos h1] at h; injection h with h; rw [← h]; exact hc
  rw [if_neg h1] at h
  by_cases h2 : c = [114]
  · rw [if_pos h2] at h; injection h with h; rw [← h]; exact hc
  rw [if_neg h2] at h
  by_cases h3 : c = [116]
  · rw [if_pos h3] at h; injection h with h; rw [← h]; exact hc
  rw [if_neg h3] at h
  by_cases h4 : c = [102]
  · rw [if_pos h4] at h; injection h with h; rw [← h]; exact hc
  rw [if_neg h4] at h
  by_cases h5 : c = [118]
  · rw [if_pos h5] at h; injection h with h; rw [← h]; exact hc
  rw [if_neg h5] at h
  by_cases h6 : c = [95] ∨ wordB c = false
  · rw [if_pos h6] at h; injection h with h; rw [h]; exact Nat.le_refl _
  · rw [if_neg h6] at h; cases h
theorem namedL_len (b : UInt8) : (namedL b).length ≤ 4 ∧ ∀ q ∈ namedL b, q.1.length ≤ 1000000 ∧ q.2.length ≤ 1000000 := by
  unfold namedL
  by_cases h1 : b = 100
  · rw [if_pos h1]; simp
  rw [if_neg h1]
  by_cases h2 : b = 119
  · rw [if_pos h2]; simp
  rw [if_neg h2]
  by_cases h3 : b = 115
  · rw [if_pos h3]; simp
  rw [if_neg h3]; simp
theorem item_facts {r r1 : List Str} {c : Str} {nm : List Row} (h : itemM r = some (c, nm, r1)) (hr : okC r) : r1.length < r.length ∧ nm.length ≤ 4 ∧ c.length ≤ 1000000 ∧ (∀ q ∈ nm, q.1.length ≤ 1000000 ∧ q.2.length ≤ 1000000) ∧ okC r1 := by
  cases r with
  | nil => cases h
  | cons p r =>
    have hp := hr p (List.mem_cons_self ..)
    simp only [itemM] at h
    by_cases h1 : p = [93]
    · rw [if_pos h1] at h; cases h
    rw [if_neg h1] at h
    by_cases h2 : p = [92]
    · rw [if_pos h2] at h
      cases r with
      | nil => cases h
      | cons c2 r2 =>
        have hp2 := hr c2 (List.mem_cons_of_mem _ (List.mem_cons_self ..))
        have ho := hr.tail.tail
        simp only at h
        cases hn : namedS c2 with
        | some rows =>
          obtain ⟨b, rfl, _, rfl⟩ := namedS_some hn
          simp only [hn] at h
          injection h with h; injection h with h3 h; injection h with h4 h5
          subst h3 h4 h5
          exact ⟨by simp; omega, (namedL_len b).1, by simp, (namedL_len b).2, ho⟩
        | none =>
          simp only [hn] at h
          cases hpm : plainM c2 with
          | none => simp only [hpm] at h; cases h
          | some t =>
            simp only [hpm] at h
            injection h with h; injection h with h3 h; injection h with h4 h5
            subst h3 h4 h5
            exact ⟨by simp; omega, by simp, by have := plainM_len hpm; omega, by simp, ho⟩
    · rw [if_neg h2] at h
      injection h with h; injection h with h3 h; injection h with h4 h5
      subst h3 h4 h5
      exact ⟨by simp, by simp, hp.2, by simp, hr.tail⟩
theorem takeM_none_hd {c : Str} {r : List Str} (h : takeM c r = none) (hc : c ≠ []) : (hdS r == c) = false ∧ (hdS r != c) = true := by
  have : hdS r ≠ c := by
    cases r with
    | nil => exact fun e => hc e.symm
    | cons p r => intro e; simp only [hdS] at e; rw [takeM, if_pos e] at h; cases h
  have h1 : (hdS r == c) = false := beq_eq_false_iff_ne.2 this
  exact ⟨h1, by simp [bne, h1]⟩
/-- A reader's fields, for a walk that looks at the second character. -/
theorem RdT.look0 {T : TypeId} {x : List Value} {w : World} {g : Nat} {c : Str} (h : RdT T x w g [c]) : ∃ (a : Option Addr) (k i n : Nat), w.cell? ⟨g, 0, none⟩ = some (.slice a n k) ∧ w.cell? ⟨g, 1, none⟩ = some (.int .i64 i) ∧ n = i + 1 ∧ n ≤ 200000 := by
  obtain ⟨a, k, l, i, c0, c1, hf, hs, hl, hi, hp, hd, hg⟩ := h.cells
  obtain ⟨h1, h2⟩ := drop_two hd
  exact ⟨a, k, i, _, c0, c1, by have := ldrop_none h2; omega, hl⟩
theorem RdT.look1 {T : TypeId} {x : List Value} {w : World} {g : Nat} {c c2 : Str} {r : List Str} (h : RdT T x w g (c :: c2 :: r)) : ∃ (b o k i n : Nat), w.cell? ⟨g, 0, none⟩ = some (.slice (some ⟨b, o, none⟩) n k) ∧ w.cell? ⟨g, 1, none⟩ = some (.int .i64 i) ∧ i + 1 < n ∧ n ≤ 200000 ∧ w.cell? ⟨b, o + (i + 1), none⟩ = some (.string ⟨(c2).toArray⟩) := by
  obtain ⟨a, k, l, i, c0, c1, hf, hs, hl, hi, hp, hd, hg⟩ := h.cells
  obtain ⟨h1, h2⟩ := drop_two hd
  obtain ⟨h3, h4, _⟩ := ldrop_cons h2
  obtain ⟨b, o, rfl, hb, k0⟩ := hs.sl.str h4
  exact ⟨b, o, k, i, _, c0, c1, h3, hl, k0⟩
def ClsRel (g d B L : Nat) (w2 : World) (R : Option (List Row × List Str)) (n : Nat) (v : Value) (wr : World) : Prop :=
  ∃ (rows : List Row) (r : List Str), wr.ownsRow B 47 2 v rows.length (rcells rows) ∧ Rd wr g r d ∧ w2.grownBy wr (some g) ∧ rows.length + 4 * r.length ≤ L ∧ r.length < n ∧ (∀ q ∈ rows, q.1.length ≤ 1000000 ∧ q.2.length ≤ 1000000) ∧ Hid (classL n rows r = R)
end Go.Proofs.Ytemophfieihgaaa
