/- What a regular expression is told as, told plainly. -/
import Derived.Test.YtpggnfpjjppbmaaDoorRxM
import Derived.Test.YtpggnfpjjppbmaaDoorDec
set_option maxRecDepth 100000
namespace Go.Proofs.YtpggnfpjjppbmaaDoor
def escL (th c : Str) : Str :=
  if c = [10] then [92, 110] else if c = [13] then [92, 114] else if c = [9] then [92, 116] else if c = [12] then [92, 102] else if c = [11] then [92, 118]
  else if th.contains (c.headD 0) = true then 92 :: c else c
def oftS (lo hi : Int) : Str :=
  if lo = 0 ∧ hi = -1 then [42] else if lo = 1 ∧ hi = -1 then [43] else if lo = 0 ∧ hi = 1 then [63] else if lo = hi then 123 :: (dec lo ++ [125])
  else if hi = -1 then 123 :: (dec lo ++ [44, 125]) else 123 :: (dec lo ++ 44 :: (dec hi ++ [125]))
def th1 : Str := [94, 36, 92, 46, 42, 43, 63, 40, 41, 91, 93, 123, 125, 124, 47]
def th2 : Str := [94, 45, 92, 91, 93, 47]
def rowS (r : Str × Str) : Str := escL th2 r.1 ++ (if r.2 = r.1 then [] else 45 :: escL th2 r.2)
def setS (ng : Bool) (rs : List (Str × Str)) : Str := 91 :: ((if ng = true then [94] else []) ++ (rs.flatMap rowS ++ [93]))
namespace Rx
mutual
def tell : Rx → Str
  | mk k c ng rs lo hi lz ks =>
    if k = 0 then tellL ks
    else if k = 1 then tellA false ks
    else if k = 2 then escL th1 c
    else if k = 3 then [46]
    else if k = 8 then [94]
    else if k = 9 then [36]
    else if k = 10 then [92, 98]
    else if k = 11 then [92, 66]
    else if k = 4 then setS ng rs
    else if k = 5 then 40 :: (tellL ks ++ [41])
    else if k = 6 then 40 :: 63 :: 58 :: (tellL ks ++ [41])
    else tellL ks ++ (oftS lo hi ++ (if lz = true then [63] else []))
def tellL : List Rx → Str
  | [] => []
  | x :: r => tell x ++ tellL r
def tellA : Bool → List Rx → Str
  | _, [] => []
  | b, x :: r => (if b = true then [124] else []) ++ (tell x ++ tellA true r)
end
end Rx
theorem oftS_len {lo hi : Int} (h0 : 0 ≤ lo) (h1 : lo ≤ 255) (h2 : hi = -1 ∨ lo ≤ hi ∧ hi ≤ 255) : (oftS lo hi).length ≤ 12 := by
  have a := dec_len h0 (by omega : lo ≤ 9999)
  unfold oftS
  split
  · simp
  split
  · simp
  split
  · simp
  split
  · simp; omega
  split
  · simp; omega
  · have b := dec_len (n := hi) (by omega) (by omega)
    simp; omega
theorem escL_len (th c : Str) : (escL th c).length ≤ c.length + 1 := by
  unfold escL
  (repeat' split) <;> simp_all
theorem wf_mk {k : Int} {c : Str} {ng : Bool} {rs : List (Str × Str)} {lo hi : Int} {lz : Bool} {ks : List Rx} (h : (Rx.mk k c ng rs lo hi lz ks).wf = true) : fieldsB (.mk k c ng rs lo hi lz ks) = true ∧ Rx.wfL ks = true := by
  simpa [Rx.wf] using h
theorem wfL_mem : ∀ {ks : List Rx} {x : Rx}, Rx.wfL ks = true → x ∈ ks → x.wf = true
  | [], _, _, h => by simp at h
  | y :: r, x, hs, h => by
    simp only [Rx.wfL, Bool.and_eq_true] at hs
    rcases List.mem_cons.1 h with rfl | h
    · exact hs.1
    · exact wfL_mem hs.2 h
theorem kind_le {k : Int} {c : Str} {ng : Bool} {rs : List (Str × Str)} {lo hi : Int} {lz : Bool} {ks : List Rx} (h : fieldsB (.mk k c ng rs lo hi lz ks) = true) :
    k = 0 ∨ k = 1 ∨ k = 2 ∨ k = 3 ∨ k = 4 ∨ k = 5 ∨ k = 6 ∨ k = 7 ∨ k = 8 ∨ k = 9 ∨ k = 10 ∨ k = 11 := by
  by_cases a : k = 0 ∨ k = 1 ∨ k = 2 ∨ k = 3 ∨ k = 4 ∨ k = 5 ∨ k = 6 ∨ k = 7 ∨ k = 8 ∨ k = 9 ∨ k = 10 ∨ k = 11
  · exact a
  · exfalso
    simp only [fieldsB] at h
    rw [if_neg (by omega), if_neg (by omega), if_neg (by omega), if_neg (by omega), if_neg (by omega), if_neg (by omega), if_neg (by omega)] at h
    cases h
theorem proper_ne {c : Str} (h : properB c = true) : c ≠ [] := by rintro rfl; cases h
theorem rows_ne : ∀ {rs : List (Str × Str)} {p : Option Str}, rowsL p rs = true → ∀ r ∈ rs, r.1 ≠ [] ∧ r.2 ≠ []
  | [], _, _, r, hr => by simp at hr
  | r0 :: rs, p, h, r, hr => by
    simp only [rowsL, Bool.and_eq_true] at h
    rcases List.mem_cons.1 hr with rfl | hr
    · have h1 := h.1.1
      simp only [rowB, Bool.and_eq_true] at h1
      exact ⟨proper_ne h1.1.1, proper_ne h1.1.2⟩
    · exact rows_ne h.2 r hr
end Go.Proofs.YtpggnfpjjppbmaaDoor
