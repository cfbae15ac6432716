/- Regular expressions as trees: the plain functions on them. -/
import Derived.Test.YtemophfieihgaaaBase
set_option maxRecDepth 100000
namespace Go.Proofs.Ytemophfieihgaaa
inductive Rx where
  | mk (kind : Int) (chr : Str) (neg : Bool) (rows : List (Str × Str)) (lo hi : Int) (lazy : Bool) (kids : List Rx)
namespace Rx
def kind : Rx → Int | mk k _ _ _ _ _ _ _ => k
def chr : Rx → Str | mk _ c _ _ _ _ _ _ => c
def neg : Rx → Bool | mk _ _ n _ _ _ _ _ => n
def rows : Rx → List (Str × Str) | mk _ _ _ r _ _ _ _ => r
def lo : Rx → Int | mk _ _ _ _ l _ _ _ => l
def hi : Rx → Int | mk _ _ _ _ _ h _ _ => h
def lazy : Rx → Bool | mk _ _ _ _ _ _ z _ => z
def kids : Rx → List Rx | mk _ _ _ _ _ _ _ k => k
mutual
def parts : Rx → Nat
  | mk _ _ _ _ _ _ _ ks => 1 + partsL ks
def partsL : List Rx → Nat
  | [] => 0
  | x :: r => parts x + partsL r
end
mutual
def groups : Rx → Nat
  | mk k _ _ _ _ _ _ ks => (if k = 5 then 1 else 0) + groupsL ks
def groupsL : List Rx → Nat
  | [] => 0
  | x :: r => groups x + groupsL r
end
mutual
def deep : Rx → Nat
  | mk k _ _ _ _ _ _ ks => deepL ks + (if k = 5 ∨ k = 6 then 1 else 0)
def deepL : List Rx → Nat
  | [] => 0
  | x :: r => max (deep x) (deepL r)
end
theorem parts_pos : ∀ x : Rx, 1 ≤ parts x
  | mk _ _ _ _ _ _ _ ks => by simp only [parts]; omega
theorem parts_mem : ∀ {ks : List Rx} {x : Rx}, x ∈ ks → parts x ≤ partsL ks
  | [], _, h => by simp at h
  | y :: r, x, h => by
    simp only [partsL]
    rcases List.mem_cons.1 h with rfl | h
    · omega
    · have := parts_mem h; omega
theorem len_parts : ∀ ks : List Rx, ks.length ≤ partsL ks
  | [] => by simp
  | x :: r => by have := parts_pos x; have := len_parts r; simp only [partsL, List.length_cons]; omega
theorem groups_parts : ∀ x : Rx, groups x ≤ parts x := by
  have key : ∀ n, ∀ x : Rx, parts x ≤ n → groups x ≤ parts x := by
    intro n
    induction n with
    | zero => intro x h; have := parts_pos x; omega
    | succ n ih =>
      rintro ⟨k, c, ng, rs, lo, hi, lz, ks⟩ h
      have hl : ∀ l : List Rx, partsL l ≤ n → groupsL l ≤ partsL l := by
        intro l
        induction l with
        | nil => intro _; simp [groupsL, partsL]
        | cons x r ihl =>
          intro hx
          simp only [partsL] at hx
          simp only [groupsL, partsL]
          have := ih x (by omega); have := ihl (by omega); omega
      simp only [parts] at h
      have := hl ks (by omega)
      simp only [groups, parts]; split <;> omega
  exact fun x => key _ x (Nat.le_refl _)
theorem deep_parts : ∀ x : Rx, deep x ≤ parts x := by
  have key : ∀ n, ∀ x : Rx, parts x ≤ n → deep x ≤ parts x := by
    intro n
    induction n with
    | zero => intro x h; have := parts_pos x; omega
    | succ n ih =>
      rintro ⟨k, c, ng, rs, lo, hi, lz, ks⟩ h
      have hl : ∀ l : List Rx, partsL l ≤ n → deepL l ≤ partsL l := by
        intro l
        induction l with
        | nil => intro _; simp [deepL, partsL]
        | cons x r ihl =>
          intro hx
          simp only [partsL] at hx
          simp only [deepL, partsL]
          have := ih x (by omega); have := ihl (by omega); omega
      simp only [parts] at h
      have := hl ks (by omega)
      simp only [deep, parts]; split <;> omega
  exact fun x => key _ x (Nat.le_refl _)
end Rx
/-! ### characters -/
def insideB (c : UInt8) : Bool := decide (128 ≤ c.toNat ∧ c.toNat ≤ 191)
/-- 'Proper': one proper character. -/
def properB : Str → Bool
  | [] => false
  | c :: r => !insideB c && r.all insideB
/-! ### rows -/
/-- Strings by their bytes: not above. -/
def leS (a b : Str) : Bool := Op.bytesLess a b || a == b
@[go_sem] theorem fold_leS (a b : Str) : (Op.bytesLess a b || a == b) = leS a b := rfl
def rowB (r : Str × Str) : Bool := properB r.1 && properB r.2 && leS r.1 r.2
/-- 'rxset.May': prev: the end of the row ahead. -/
def rowsL : Option Str → List (Str × Str) → Bool
  | _, [] => true
  | p, r :: rs => rowB r && (match p with | none => true | some t => !leS r.1 t) && rowsL (some r.2) rs
def rowsB (rs : List (Str × Str)) : Bool := rowsL none rs
/-! ### may a tree be? -/
def bareB (x : Rx) : Bool := decide (x.chr = []) && !x.neg && decide (x.rows = []) && decide (x.lo = 0) && decide (x.hi = 0) && !x.lazy
def repB (k : Int) : Bool := decide (k = 2 ∨ k = 3 ∨ k = 4 ∨ k = 5 ∨ k = 6)
def fieldsB : Rx → Bool
  | .mk k c ng rs lo hi lz ks =>
    if k = 2 then bareB (.mk k [] ng rs lo hi lz ks) && decide (ks = []) && properB c
    else if k = 4 then bareB (.mk k c false [] lo hi lz ks) && decide (ks = []) && rowsB rs
    else if k = 7 then bareB (.mk k c ng rs 0 0 false ks) && (match ks with | [x] => repB x.kind | _ => false) && decide (0 ≤ lo ∧ lo ≤ 255 ∧ (hi = -1 ∨ lo ≤ hi ∧ hi ≤ 255))
    else if k = 0 then bareB (.mk k c ng rs lo hi lz ks) && decide (ks.length ≠ 1) && ks.all fun x => decide (x.kind ≠ 0 ∧ x.kind ≠ 1)
    else if k = 1 then bareB (.mk k c ng rs lo hi lz ks) && decide (1 < ks.length) && ks.all fun x => decide (x.kind ≠ 1)
    else if k = 5 ∨ k = 6 then bareB (.mk k c ng rs lo hi lz ks) && decide (ks.length = 1)
    else if k = 3 ∨ k = 8 ∨ k = 9 ∨ k = 10 ∨ k = 11 then bareB (.mk k c ng rs lo hi lz ks) && decide (ks = [])
    else false
namespace Rx
mutual
def wf : Rx → Bool
  | mk k c ng rs lo hi lz ks => fieldsB (mk k c ng rs lo hi lz ks) && wfL ks
def wfL : List Rx → Bool
  | [] => true
  | x :: r => wf x && wfL r
end
end Rx
def okB (x : Rx) (left dp : Int) : Bool := x.wf && decide ((x.parts : Int) ≤ left) && decide ((x.deep : Int) ≤ dp)
def okL (ks : List Rx) (left dp : Int) : Bool := Rx.wfL ks && decide ((Rx.partsL ks : Int) ≤ left) && decide ((Rx.deepL ks : Int) ≤ dp)
def mayB (x : Rx) : Bool := okB x 512 16
theorem okL_cons (x : Rx) (r : List Rx) (left dp : Int) : okL (x :: r) left dp = (okB x left dp && okL r (left - x.parts) dp) := by
  rw [Bool.eq_iff_iff]
  have := Rx.parts_pos x
  simp only [okL, okB, Bool.and_eq_true, decide_eq_true_eq]
  simp only [Rx.wfL, Rx.partsL, Rx.deepL, Bool.and_eq_true]
  constructor
  · rintro ⟨⟨⟨a, b⟩, c⟩, d⟩
    exact ⟨⟨⟨a, by omega⟩, by omega⟩, ⟨b, by omega⟩, by omega⟩
  · rintro ⟨⟨⟨a, b⟩, c⟩, ⟨d, e⟩, f⟩
    exact ⟨⟨⟨a, d⟩, by omega⟩, by omega⟩
def grpB (k : Int) : Bool := decide (k = 5 ∨ k = 6)
theorem okB_eq (k : Int) (c : Str) (ng : Bool) (rs : List (Str × Str)) (lo hi : Int) (lz : Bool) (ks : List Rx) (left dp : Int) :
    okB (.mk k c ng rs lo hi lz ks) left dp = (decide (1 ≤ left) && decide (0 ≤ dp - (if grpB k then 1 else 0)) && fieldsB (.mk k c ng rs lo hi lz ks) && okL ks (left - 1) (dp - (if grpB k then 1 else 0))) := by
  rw [Bool.eq_iff_iff]
  have hd : ((Rx.deepL ks + if k = 5 ∨ k = 6 then 1 else 0 : Nat) : Int) = (Rx.deepL ks : Int) + (if grpB k then 1 else 0) := by
    by_cases h : k = 5 ∨ k = 6 <;> simp [grpB, h]
  simp only [okB, okL, Bool.and_eq_true, decide_eq_true_eq]
  simp only [Rx.wf, Rx.parts, Rx.deep, Bool.and_eq_true, hd]
  generalize (if grpB k = true then (1 : Int) else 0) = g
  constructor
  · rintro ⟨⟨⟨a, b⟩, c⟩, d⟩
    exact ⟨⟨⟨by omega, by omega⟩, a⟩, ⟨b, by omega⟩, by omega⟩
  · rintro ⟨⟨⟨a, b⟩, c⟩, ⟨d, e⟩, f⟩
    exact ⟨⟨⟨c, d⟩, by omega⟩, by omega⟩
end Go.Proofs.Ytemophfieihgaaa
