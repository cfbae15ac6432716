/- The plain functions that the package casing computes. -/
import Derived.Test.YtlomkfennnmkdaaDoorBase
namespace Go.Proofs.YtlomkfennnmkdaaDoor
def upB (c : UInt8) : UInt8 := if 97 ≤ c.toNat ∧ c.toNat ≤ 122 then c - 32 else c
def lowB (c : UInt8) : UInt8 := if 65 ≤ c.toNat ∧ c.toNat ≤ 90 then c + 32 else c
def wordB (c : UInt8) : Bool := decide ((97 ≤ c.toNat ∧ c.toNat ≤ 122) ∨ (65 ≤ c.toNat ∧ c.toNat ≤ 90) ∨ (48 ≤ c.toNat ∧ c.toNat ≤ 57) ∨ 128 ≤ c.toNat)
/-- 'joined': pw: was the byte ahead one of a word? acc: what is laid so far. -/
def joinL (small : Bool) : Bool → Str → Str → Str
  | _, [], acc => acc
  | pw, c :: r, acc => if wordB c = true then (if pw = true then joinL small true r (acc ++ [c]) else if small = true ∧ acc = [] then joinL small true r (acc ++ [lowB c]) else joinL small true r (acc ++ [upB c])) else joinL small false r acc
def capB : Str → Str
  | [] => []
  | c :: r => upB c :: r
/-- 'Turn': what it answers, and its code. -/
def turn (s : Str) (way : Int) : Str × Int :=
  if way = 1 then (s.map upB, 0) else if way = 2 then (s.map lowB, 0) else if way = 3 then (capB s, 0) else if way = 4 then (joinL true false s [], 0) else if way = 5 then (joinL false false s [], 0) else ([], 2)
def n1 : Str := [117, 112, 99, 97, 115, 101]
def n2 : Str := [100, 111, 119, 110, 99, 97, 115, 101]
def n3 : Str := [99, 97, 112, 105, 116, 97, 108, 105, 122, 101]
def n4 : Str := [99, 97, 109, 101, 108, 99, 97, 115, 101]
def n5 : Str := [112, 97, 115, 99, 97, 108, 99, 97, 115, 101]
def nameOf (way : Int) : Str := if way = 1 then n1 else if way = 2 then n2 else if way = 3 then n3 else if way = 4 then n4 else if way = 5 then n5 else []
def wayOf (s : Str) : Int := if s = n1 then 1 else if s = n2 then 2 else if s = n3 then 3 else if s = n4 then 4 else if s = n5 then 5 else 0
theorem nameOf_length (way : Int) : (nameOf way).length ≤ 10 := by
  unfold nameOf; (repeat' split) <;> decide
theorem joinL_length (small : Bool) : ∀ (s : Str) (pw : Bool) (acc : Str), (joinL small pw s acc).length ≤ s.length + acc.length
  | [], pw, acc => by simp [joinL]
  | c :: r, pw, acc => by
    have h1 := joinL_length small r true (acc ++ [c])
    have h2 := joinL_length small r true (acc ++ [lowB c])
    have h3 := joinL_length small r true (acc ++ [upB c])
    have h4 := joinL_length small r false acc
    simp only [joinL, List.length_cons, List.length_append, List.length_nil] at *
    (repeat' split) <;> omega
theorem turn_length (s : Str) (way : Int) : (turn s way).1.length ≤ s.length := by
  unfold turn
  have h1 := joinL_length true s false []
  have h2 := joinL_length false s false []
  (repeat' split) <;> simp_all
  cases s <;> simp [capB]
theorem upB_nat (c : UInt8) : (upB c).toNat = if 97 ≤ c.toNat ∧ c.toNat ≤ 122 then c.toNat - 32 else c.toNat := by
  unfold upB; split
  · rename_i h
    rw [UInt8.toNat_sub_of_le _ _ (by rw [UInt8.le_iff_toNat_le]; have : (32 : UInt8).toNat = 32 := rfl; omega)]; rfl
  · rfl
theorem lowB_nat (c : UInt8) : (lowB c).toNat = if 65 ≤ c.toNat ∧ c.toNat ≤ 90 then c.toNat + 32 else c.toNat := by
  unfold lowB; split
  · rename_i h
    rw [UInt8.toNat_add]; have : (32 : UInt8).toNat = 32 := rfl; omega
  · rfl
theorem ofNat_nat {c : Int} (h1 : c < 256) : (UInt8.ofNat c.toNat).toNat = c.toNat := by
  rw [UInt8.toNat_ofNat']; omega
theorem wayOf_hit {s : Str} {k : Int} (h1 : 1 ≤ k) (h5 : k ≤ 5) (h : nameOf k = s) : wayOf s = k := by
  have hk : k = 1 ∨ k = 2 ∨ k = 3 ∨ k = 4 ∨ k = 5 := by omega
  subst h
  rcases hk with rfl | rfl | rfl | rfl | rfl <;> decide
theorem wayOf_miss {s : Str} (h : ∀ j : Int, 1 ≤ j → j < 6 → nameOf j ≠ s) : wayOf s = 0 := by
  unfold wayOf
  rw [if_neg (fun e => h 1 (by omega) (by omega) e.symm), if_neg (fun e => h 2 (by omega) (by omega) e.symm), if_neg (fun e => h 3 (by omega) (by omega) e.symm), if_neg (fun e => h 4 (by omega) (by omega) e.symm), if_neg (fun e => h 5 (by omega) (by omega) e.symm)]
end Go.Proofs.YtlomkfennnmkdaaDoor
