/- What a format makes of parts, told plainly. -/
import Derived.Test.YtlomkfennnmkdaaDoorFmD
namespace Go.Proofs.YtlomkfennnmkdaaDoor
def partOf (ps : List Str) (n : Int) : Str := ps.getD n.toNat []
def piece (ps : List Str) (f : Fm) : Str :=
  if f.kind = 0 then f.thn
  else if f.kind = 1 then partOf ps f.n
  else if f.kind = 2 then (turn (partOf ps f.n) f.cse).1
  else if f.kind = 4 then (if partOf ps f.n = [] then f.els else partOf ps f.n)
  else (if partOf ps f.n = [] then f.els else f.thn)
def applyF (fs : List Fm) (ps : List Str) : Str := if mayFs fs = true then fs.flatMap (piece ps) else []
theorem mayL_all : ∀ (pt : Bool) (fs : List Fm), mayL pt fs = true → ∀ f ∈ fs, mayF f = true
  | _, [], _, f, hf => by simp at hf
  | pt, g :: r, h, f, hf => by
    simp only [mayL, Bool.and_eq_true] at h
    rcases List.mem_cons.1 hf with rfl | hf
    · exact h.1.1
    · exact mayL_all _ r h.2 f hf
theorem mayF_n {f : Fm} (h : mayF f = true) : 0 ≤ f.n ∧ f.n ≤ 9999 := by
  unfold mayF at h; rw [Bool.and_eq_true] at h; simpa using h.1
theorem mayF_kind {f : Fm} (h : mayF f = true) : f.kind = 0 ∨ f.kind = 1 ∨ f.kind = 2 ∨ f.kind = 3 ∨ f.kind = 4 ∨ f.kind = 5 := by
  unfold mayF at h; rw [Bool.and_eq_true] at h
  have h2 := h.2
  by_cases h0 : f.kind = 0
  · exact .inl h0
  by_cases h1 : f.kind = 1
  · exact .inr (.inl h1)
  by_cases h3 : f.kind = 2
  · exact .inr (.inr (.inl h3))
  by_cases h4 : f.kind = 3
  · exact .inr (.inr (.inr (.inl h4)))
  by_cases h5 : f.kind = 4
  · exact .inr (.inr (.inr (.inr (.inl h5))))
  by_cases h6 : f.kind = 5
  · exact .inr (.inr (.inr (.inr (.inr h6))))
  rw [if_neg h0, if_neg h1, if_neg h3, if_neg h4, if_neg h5, if_neg h6] at h2; cases h2
theorem partOf_len {ps : List Str} {m : Nat} (h : ∀ p ∈ ps, p.length ≤ m) (n : Int) : (partOf ps n).length ≤ m := by
  unfold partOf; rw [List.getD_eq_getElem?_getD]
  cases hg : ps[n.toNat]? with
  | none => simp
  | some p => exact h p (List.mem_of_getElem? hg)
theorem piece_len {ps : List Str} {m : Nat} {f : Fm} (h : ∀ p ∈ ps, p.length ≤ m) (h1 : f.thn.length ≤ m) (h2 : f.els.length ≤ m) : (piece ps f).length ≤ m := by
  have h3 := partOf_len h f.n
  have h4 := turn_length (partOf ps f.n) f.cse
  unfold piece; (repeat' split) <;> omega
end Go.Proofs.YtlomkfennnmkdaaDoor
