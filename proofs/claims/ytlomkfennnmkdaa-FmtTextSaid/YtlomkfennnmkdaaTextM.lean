/- What FmtText builds, told plainly; and that it is read as itself. -/
import Derived.Test.YtlomkfennnmkdaaFmtM
namespace Go.Proofs.Ytlomkfennnmkdaa
def sgn (c : UInt8) : Bool := decide (c.toNat = 36 ∨ c.toNat = 125 ∨ c.toNat = 92 ∨ c.toNat = 47)
def bStep (pl : Bool) (c : UInt8) : Str := if sgn c = true then (if pl = true then [] else [92, c]) else [c]
def cStep (pl : Bool) (c : UInt8) : Str := if sgn c = true ∧ pl = true then [] else [c]
def bOf (pl : Bool) (s : Str) : Str := s.flatMap (bStep pl)
def cOf (pl : Bool) (s : Str) : Str := s.flatMap (cStep pl)
theorem four_sgn (c : UInt8) : four.contains c = sgn c := by
  rw [Bool.eq_iff_iff]
  simp only [four, sgn, List.contains_cons, List.contains_nil, Bool.or_false, Bool.or_eq_true, beq_iff_eq, decide_eq_true_eq, ← UInt8.toNat_inj]
  simp
theorem text_read (pl : Bool) : ∀ (s tx : Str), readX (bOf pl s ++ [47]) tx [] = some (flushF (tx ++ cOf pl s) [], [47])
  | [], tx => by
    simp only [bOf, cOf, List.flatMap_nil, List.nil_append, List.append_nil]
    rw [readX_cons]; rfl
  | c :: r, tx => by
    have ih := fun t => text_read pl r t
    simp only [bOf, cOf, List.flatMap_cons] at *
    by_cases hs : sgn c = true
    · cases pl with
      | true => simp only [bStep, cStep, hs, if_true, and_self, List.nil_append]; rw [ih]
      | false =>
        simp only [bStep, cStep, hs, if_true, Bool.false_eq_true, and_false, if_false, List.cons_append, List.nil_append]
        rw [readX_cons, if_neg (by decide), if_neg (by decide), if_pos ⟨by decide, by simp only [stands]; rw [four_sgn]; exact hs⟩]
        simp only [List.drop_succ_cons, List.drop_zero, List.take_succ_cons, List.take_zero]
        rw [ih]; simp
    · have hs' := hs
      simp only [sgn, decide_eq_true_eq] at hs'
      simp only [bStep, cStep, hs, Bool.false_eq_true, false_and, if_false, List.cons_append, List.nil_append]
      rw [readX_cons, if_neg (by omega), if_neg (by omega), if_neg (by omega), ih]; simp
theorem bOf_len (pl : Bool) (s : Str) : (bOf pl s).length ≤ 2 * s.length := by
  induction s with
  | nil => simp [bOf]
  | cons c r ih =>
    simp only [bOf, List.flatMap_cons, List.length_append, List.length_cons] at *
    have : (bStep pl c).length ≤ 2 := by unfold bStep; (repeat' split) <;> simp
    omega
theorem cOf_len (pl : Bool) (s : Str) : (cOf pl s).length ≤ s.length := by
  induction s with
  | nil => simp [cOf]
  | cons c r ih =>
    simp only [cOf, List.flatMap_cons, List.length_append, List.length_cons] at *
    have : (cStep pl c).length ≤ 1 := by unfold cStep; split <;> simp
    omega
theorem bOf_snoc (pl : Bool) (s : Str) (k : Nat) (h : k < s.length) : bOf pl (s.take (k + 1)) = bOf pl (s.take k) ++ bStep pl s[k] := by
  unfold bOf; rw [List.take_succ_eq_append_getElem h, List.flatMap_append, List.flatMap_cons, List.flatMap_nil, List.append_nil]
theorem cOf_snoc (pl : Bool) (s : Str) (k : Nat) (h : k < s.length) : cOf pl (s.take (k + 1)) = cOf pl (s.take k) ++ cStep pl s[k] := by
  unfold cOf; rw [List.take_succ_eq_append_getElem h, List.flatMap_append, List.flatMap_cons, List.flatMap_nil, List.append_nil]
end Go.Proofs.Ytlomkfennnmkdaa
