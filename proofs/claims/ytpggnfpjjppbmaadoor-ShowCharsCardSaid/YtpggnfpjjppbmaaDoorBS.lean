/- A number's decimal digits. -/
import Derived.Test.YtpggnfpjjppbmaaDoorBase
import Derived.Lib.ItoaMem
import Derived.Test.YtpggnfpjjppbmaaDoorRxM
import Derived.Test.YtpggnfpjjppbmaaDoorMem
import Derived.Test.YtpggnfpjjppbmaaDoorShelf
import Derived.Lib.Bytealg
import Derived.Test.YtpggnfpjjppbmaaDoorRxV
import Derived.Test.YtpggnfpjjppbmaaDoorR5
import Derived.Test.YtpggnfpjjppbmaaDoorR8
import Derived.Test.YtpggnfpjjppbmaaDoorExt
import Derived.Test.YtpggnfpjjppbmaaDoorAppS
import Derived.ChangeArms
import Derived.Deep.Slices
import Derived.Test.YtpggnfpjjppbmaaDoorRows
import Derived.WalkKit
import Derived.ProofKit
import Derived.OpenShut
import Derived.ShutString
import Derived.Below
import Derived.ChangeSame
import Derived.Carry
import Derived.LaidMore
import Derived.Stop.Joined
import Derived.Lib.LaidTab
set_option maxRecDepth 100000
namespace Go.Proofs.YtpggnfpjjppbmaaDoor
def dec (n : Int) : Str := Lib.decDigits n.toNat
theorem nDigits_le {u : Nat} (h : u ≤ 9999) : 1 ≤ Lib.nDigits u ∧ Lib.nDigits u ≤ 4 := by
  have h1 : ∀ v, v < 10 → Lib.nDigits v = 1 := fun v hv => by rw [Lib.nDigits, dif_pos hv]
  have h2 : ∀ v, ¬ v < 10 → Lib.nDigits v = Lib.nDigits (v / 10) + 1 := fun v hv => by rw [Lib.nDigits, dif_neg hv]
  by_cases a : u < 10
  · rw [h1 u a]; omega
  · rw [h2 u a]
    by_cases b : u / 10 < 10
    · rw [h1 _ b]; omega
    · rw [h2 _ b]
      by_cases c : u / 10 / 10 < 10
      · rw [h1 _ c]; omega
      · rw [h2 _ c, h1 _ (by omega)]; omega
theorem dec_len {n : Int} (h0 : 0 ≤ n) (h : n ≤ 9999) : 1 ≤ (dec n).length ∧ (dec n).length ≤ 4 := by
  unfold dec; rw [Lib.decDigits_length]; exact nDigits_le (by omega)
end Go.Proofs.YtpggnfpjjppbmaaDoor
set_option maxRecDepth 100000
namespace Go.Proofs.YtpggnfpjjppbmaaDoor
def escL (th c : Str) : Str :=
  if c = [10] then [92, 110] else if c = [13] then [92, 114] else if c = [9] then [92, 116] else if c = [12] then [92, 102] else if c = [11] then [92, 118]
  else if th.contains (c.headD 0) = true then 92 :: c else c
def oftS (lo hi : Int) : Str :=
  if lo = 0 ∧ hi = -1 then [42] else if lo = 1 ∧ hi = -1 then [43] else if lo = 0 ∧ hi = 1 then [63] else if lo = hi then 123 :: (dec lo ++ [125])
  else if hi = -1 then 123 :: (dec lo ++ [44, 125]) else 123 :: (dec lo ++ 44 :: (dec hi ++ [125]))
def th1 : Str := [94, 36, 92, 46, 42, 43, 63, 40, 41, 91, 93, 123, 125, 124, 47]
def th2 : Str := [94, 45, 92, 91, 93, 47]
def rowS (r : Str × Str) : Str := escL th2 r.1 ++ (if r.2 = r.1 then [] else 45 :: escL th2 r.2)
def setS (ng : Bool) (rs : List (Str × Str)) : Str := 91 :: ((if ng = true then [94] else []) ++ (rs.flatMap rowS ++ [93]))
namespace Rx
mutual
def tell : Rx → Str
  | mk k c ng rs lo hi lz ks =>
    if k = 0 then tellL ks
    else if k = 1 then tellA false ks
    else if k = 2 then escL th1 c
    else if k = 3 then [46]
    else if k = 8 then [94]
    else if k = 9 then [36]
    else if k = 10 then [92, 98]
    else if k = 11 then [92, 66]
    else if k = 4 then setS ng rs
    else if k = 5 then 40 :: (tellL ks ++ [41])
    else if k = 6 then 40 :: 63 :: 58 :: (tellL ks ++ [41])
    else tellL ks ++ (oftS lo hi ++ (if lz = true then [63] else []))
def tellL : List Rx → Str
  | [] => []
  | x :: r => tell x ++ tellL r
def tellA : Bool → List Rx → Str
  | _, [] => []
  | b, x :: r => (if b = true then [124] else []) ++ (tell x ++ tellA true r)
end
end Rx
theorem oftS_len {lo hi : Int} (h0 : 0 ≤ lo) (h1 : lo ≤ 255) (h2 : hi = -1 ∨ lo ≤ hi ∧ hi ≤ 255) : (oftS lo hi).length ≤ 12 := by
  have a := dec_len h0 (by omega : lo ≤ 9999)
  unfold oftS
  split
  · simp
  split
  · simp
  split
  · simp
  split
  · simp; omega
  split
  · simp; omega
  · have b := dec_len (n := hi) (by omega) (by omega)
    simp; omega
theorem escL_len (th c : Str) : (escL th c).length ≤ c.length + 1 := by
  unfold escL
  (repeat' split) <;> simp_all
theorem wf_mk {k : Int} {c : Str} {ng : Bool} {rs : List (Str × Str)} {lo hi : Int} {lz : Bool} {ks : List Rx} (h : (Rx.mk k c ng rs lo hi lz ks).wf = true) : fieldsB (.mk k c ng rs lo hi lz ks) = true ∧ Rx.wfL ks = true := by
  simpa [Rx.wf] using h
theorem wfL_mem : ∀ {ks : List Rx} {x : Rx}, Rx.wfL ks = true → x ∈ ks → x.wf = true
  | [], _, _, h => by simp at h
  | y :: r, x, hs, h => by
    simp only [Rx.wfL, Bool.and_eq_true] at hs
    rcases List.mem_cons.1 h with rfl | h
    · exact hs.1
    · exact wfL_mem hs.2 h
theorem kind_le {k : Int} {c : Str} {ng : Bool} {rs : List (Str × Str)} {lo hi : Int} {lz : Bool} {ks : List Rx} (h : fieldsB (.mk k c ng rs lo hi lz ks) = true) :
    k = 0 ∨ k = 1 ∨ k = 2 ∨ k = 3 ∨ k = 4 ∨ k = 5 ∨ k = 6 ∨ k = 7 ∨ k = 8 ∨ k = 9 ∨ k = 10 ∨ k = 11 := by
  by_cases a : k = 0 ∨ k = 1 ∨ k = 2 ∨ k = 3 ∨ k = 4 ∨ k = 5 ∨ k = 6 ∨ k = 7 ∨ k = 8 ∨ k = 9 ∨ k = 10 ∨ k = 11
  · exact a
  · exfalso
    simp only [fieldsB] at h
    rw [if_neg (by omega), if_neg (by omega), if_neg (by omega), if_neg (by omega), if_neg (by omega), if_neg (by omega), if_neg (by omega)] at h
    cases h
theorem proper_ne {c : Str} (h : properB c = true) : c ≠ [] := by rintro rfl; cases h
theorem rows_ne : ∀ {rs : List (Str × Str)} {p : Option Str}, rowsL p rs = true → ∀ r ∈ rs, r.1 ≠ [] ∧ r.2 ≠ []
  | [], _, _, r, hr => by simp at hr
  | r0 :: rs, p, h, r, hr => by
    simp only [rowsL, Bool.and_eq_true] at h
    rcases List.mem_cons.1 hr with rfl | hr
    · have h1 := h.1.1
      simp only [rowB, Bool.and_eq_true] at h1
      exact ⟨proper_ne h1.1.1, proper_ne h1.1.2⟩
    · exact rows_ne h.2 r hr
end Go.Proofs.YtpggnfpjjppbmaaDoor
set_option maxRecDepth 100000
namespace Go.Proofs.YtpggnfpjjppbmaaDoor
open Go.RowKit
/-- The library's table of powers of ten, as it is laid. -/
def Tab (w : World) : Prop := Lib.TabIs Tryd.prog w "internal/strconv.uint64pow10" .u64 Lib.pow10Tab
theorem tab_name : ∃ g, Tryd.prog.globalNamed "internal/strconv.uint64pow10" = some g := by
  have h : (Tryd.prog.globalNamed "internal/strconv.uint64pow10").isSome = true := by kernel_rfl
  exact Option.isSome_iff_exists.1 h
theorem Tab.keep {w w' : World} (h : Tab w) (hb : Below w.heap.size w w') : Tab w' := by
  obtain ⟨g, hg⟩ := tab_name
  unfold Tab Lib.TabIs World.var? at h ⊢
  rw [hg] at h ⊢
  simp only [Option.bind_some] at h ⊢
  have hlt : g < w.heap.size := by
    rcases Nat.lt_or_ge g w.heap.size with h' | h'
    · exact h'
    · rw [Array.getElem?_eq_none h'] at h; cases h
  rw [hb.block g hlt]
  exact h
theorem tab_num : Tryd.prog.globalNamed "internal/strconv.uint64pow10" = some 1 := by kernel_rfl
theorem Tab.lt {w : World} (h : Tab w) : 1 < w.heap.size := by
  unfold Tab Lib.TabIs World.var? at h
  rw [tab_num] at h
  simp only [Option.bind_some] at h
  rcases Nat.lt_or_ge 1 w.heap.size with h' | h'
  · exact h'
  · rw [Array.getElem?_eq_none h'] at h; cases h
theorem Tab.keepB {w w' : World} {B : Nat} (h : Tab w) (hg : 1 < B) (hb : Below B w w') : Tab w' := by
  unfold Tab Lib.TabIs World.var? at h ⊢
  rw [tab_num] at h ⊢
  simp only [Option.bind_some] at h ⊢
  rw [hb.block _ hg]
  exact h
theorem below_grow (w : World) (n : Nat) (os : Array Obj) : Below w.heap.size w (Sort.grow (w.drewN n) os) :=
  ⟨rfl, rfl, rfl, by simp [Sort.grow], fun k hk => by simp [Sort.grow, Array.getElem?_append_left hk]⟩
theorem Itoa_any (n : Int) (w : World) (h0 : 0 ≤ n) (h1 : n ≤ 100000) (ht : Tab w) :
    Calls Tryd.prog 54 #[.int .i64 n] w fun e w' => e = .returned (.string ⟨(dec n).toArray⟩) ∧ Below w.heap.size w w' := by
  refine (Tryd.strconv_Itoa n (by omega) (by omega) w ht).mono ?_
  rintro e w' ⟨rfl, k, os, rfl⟩
  obtain ⟨m, rfl⟩ := Int.eq_ofNat_of_zero_le h0
  refine ⟨?_, below_grow w k os⟩
  rw [Lib.itoa_nonneg]; rfl
end Go.Proofs.YtpggnfpjjppbmaaDoor
set_option maxRecDepth 100000
namespace Go.Proofs.YtpggnfpjjppbmaaDoor
open Go.RowKit
theorem stringslite_IndexByte (l : Str) (c : Int) (w : World) :
    Calls Tryd.prog 67 #[.string ⟨(l).toArray⟩, .int .u8 c] w fun e w' => e = .returned (.int .i64 (Lib.indexByte l c.toNat.toUInt8)) ∧ w = w' := by
  go_enter Tryd.func67, Tryd.ntmps67
  go_wp2
  rw [run_callFunc_extern Tryd.func79 (by kernel_rfl) (by kernel_rfl) (by kernel_rfl) (e := Extern.BytealgIndexByte.indexByte) (by kernel_rfl), Lib.run_indexByteString]
  simp only [Result.andThen]
  rw [Oper.upon_value]
  go_wp2
  go_ret
  exact ⟨rfl, rfl⟩
theorem strings_IndexByte (l : Str) (c : Int) (w : World) :
    Calls Tryd.prog 53 #[.string ⟨(l).toArray⟩, .int .u8 c] w fun e w' => e = .returned (.int .i64 (Lib.indexByte l c.toNat.toUInt8)) ∧ w = w' := by
  go_enter Tryd.func53, Tryd.ntmps53
  go_wp2_with (go_at_call 67; refine (stringslite_IndexByte _ _ _).mono ?_; rintro e w1 ⟨rfl, rfl⟩)
  go_ret
  exact ⟨rfl, rfl⟩
theorem idx_ge (l : Str) (c : UInt8) : 0 ≤ Lib.indexByte l c ↔ l.contains c = true := by
  induction l with
  | nil => simp [Lib.indexByte]
  | cons b l ih =>
    have := Lib.indexByte_ge l c
    unfold Lib.indexByte
    rw [List.contains_cons, Bool.or_eq_true, ← ih]
    by_cases h : b = c
    · simp [h]
    · have h' : (b == c) = false := by simpa using h
      have h'' : ¬ (c == b) = true := by simpa using (fun e => h e.symm)
      rw [h', if_neg (by simp)]
      by_cases h1 : Lib.indexByte l c = -1
      · simp [h1]; exact fun e => h e.symm
      · have h2 : ¬ (Lib.indexByte l c == -1) = true := by simpa using h1
        rw [if_neg h2]; simp [h'']; omega
theorem idx_dec (l : Str) (c : UInt8) : decide (0 ≤ Lib.indexByte l c) = l.contains c := by
  rw [Bool.eq_iff_iff, decide_eq_true_iff]; exact idx_ge l c
theorem IndexByte_eq {l : Str} {c k : Int} (w : World) (h : Lib.indexByte l c.toNat.toUInt8 = k) :
    Calls Tryd.prog 53 #[.string ⟨(l).toArray⟩, .int .u8 c] w fun e w' => e = .returned (.int .i64 k) ∧ w = w' := by
  subst h; exact strings_IndexByte l c w
theorem idx_hit {th : Str} {c : UInt8} (h : th.contains c = true) : ∃ k : Nat, Lib.indexByte th ((c.toNat : Int)).toNat.toUInt8 = (k : Int) := by
  have h1 := (idx_ge th c).2 h
  rw [show ((c.toNat : Int)).toNat.toUInt8 = c by simp]
  exact Int.eq_ofNat_of_zero_le h1
theorem idx_miss {th : Str} {c : UInt8} (h : ¬ th.contains c = true) : Lib.indexByte th ((c.toNat : Int)).toNat.toUInt8 = -1 := by
  rw [show ((c.toNat : Int)).toNat.toUInt8 = c by simp]
  have h1 := Lib.indexByte_ge th c
  have h2 : ¬ 0 ≤ Lib.indexByte th c := fun h3 => h ((idx_ge th c).1 h3)
  omega
end Go.Proofs.YtpggnfpjjppbmaaDoor
set_option maxRecDepth 100000
namespace Go.Proofs.YtpggnfpjjppbmaaDoor
open Go.RowKit
set_option maxHeartbeats 1000000 in
theorem escape_any (th c : Str) (w : World) (hc : c ≠ []) (hs : c.length ≤ 10000000) :
    Calls Tryd.prog 38 #[.string ⟨(c).toArray⟩, .string ⟨(th).toArray⟩] w fun e w' => e = .returned (.string ⟨(escL th c).toArray⟩) ∧ w = w' := by
  cases c with
  | nil => exact absurd rfl hc
  | cons a r =>
    clear hc
    simp only [List.length_cons] at hs
    generalize hR : escL th (a :: r) = R
    have HR := Lib.hid hR
    clear hR
    by_cases hm : th.contains a = true
    · obtain ⟨k, hk⟩ := idx_hit hm
      have HK := Lib.hid hk
      have HM := Lib.hid hm
      clear hk hm
      go_enter Tryd.func38, Tryd.ntmps38
      go_wp2_with (go_at_call 53; refine (IndexByte_eq _ HK.out).mono ?_; rintro e w1 ⟨rfl, rfl⟩)
      all_goals
        go_ret
        refine ⟨ret_str ?_, rfl⟩
        rw [← HR.out]
        have hm := HM.out
        clear HR HM HK
        unfold escL
        (repeat' split) <;> simp_all
    · have hk := idx_miss hm
      have HK := Lib.hid hk
      have HM := Lib.hid hm
      clear hk hm
      go_enter Tryd.func38, Tryd.ntmps38
      go_wp2_with (go_at_call 53; refine (IndexByte_eq _ HK.out).mono ?_; rintro e w1 ⟨rfl, rfl⟩)
      all_goals
        go_ret
        refine ⟨ret_str ?_, rfl⟩
        rw [← HR.out]
        have hm := HM.out
        clear HR HM HK
        unfold escL
        (repeat' split) <;> simp_all
set_option maxHeartbeats 1000000 in
theorem often_any (lo hi : Int) (w : World) (h0 : 0 ≤ lo) (h1 : lo ≤ 255) (h2 : hi = -1 ∨ lo ≤ hi ∧ hi ≤ 255) (ht : Tab w) :
    Calls Tryd.prog 40 #[.int .i64 lo, .int .i64 hi] w fun e w' => e = .returned (.string ⟨(oftS lo hi).toArray⟩) ∧ Below w.heap.size w w' := by
  generalize hR : oftS lo hi = R
  have HR := Lib.hid hR
  clear hR
  have HT := Lib.hid ht
  have hl := dec_len h0 (by omega : lo ≤ 9999)
  clear ht
  rcases h2 with rfl | ⟨h3, h4⟩
  · by_cases hl0 : lo = 0
    · subst hl0
      go_enter Tryd.func40, Tryd.ntmps40
      go_wp2
      go_ret
      exact ⟨ret_str (by rw [← HR.out]; simp [oftS]), Below.refl _ _⟩
    by_cases hl1 : lo = 1
    · subst hl1
      go_enter Tryd.func40, Tryd.ntmps40
      go_wp2
      go_ret
      exact ⟨ret_str (by rw [← HR.out]; simp [oftS]), Below.refl _ _⟩
    have e0 : (lo == 0) = false := by simpa using hl0
    have e1 : (lo == 1) = false := by simpa using hl1
    have e2 : (lo == -1) = false := (by rw [beq_eq_false_iff_ne]; omega)
    have HR2 : Hid (R = 123 :: (dec lo ++ [44, 125])) := Lib.hid (by
      rw [← HR.out]; unfold oftS
      rw [if_neg (by omega), if_neg (by omega), if_neg (by omega), if_neg (by omega), if_pos rfl])
    clear hl0 hl1 HR
    go_enter Tryd.func40, Tryd.ntmps40
    go_wp2_with (go_at_call 54; refine (Itoa_any _ _ (by omega) (by omega) HT.out).mono ?_; rintro e w1 ⟨rfl, hb1⟩)
    go_ret
    exact ⟨ret_str (by rw [HR2.out] <;> simp), hb1⟩
  · have hh := dec_len (n := hi) (by omega) (by omega)
    have e2 : (hi == -1) = false := by rw [beq_eq_false_iff_ne]; omega
    by_cases hlh : lo = hi
    · subst hlh
      have HR2 : Hid (R = 123 :: (dec lo ++ [125])) := Lib.hid (by
        rw [← HR.out]; unfold oftS
        rw [if_neg (by omega), if_neg (by omega), if_neg (by omega), if_pos rfl])
      clear HR
      by_cases hl0 : lo = 0
      · subst hl0
        go_enter Tryd.func40, Tryd.ntmps40
        go_wp2_with (go_at_call 54; refine (Itoa_any _ _ (by omega) (by omega) HT.out).mono ?_; rintro e w1 ⟨rfl, hb1⟩)
        go_ret
        exact ⟨ret_str (by rw [HR2.out] <;> simp), hb1⟩
      by_cases hl1 : lo = 1
      · subst hl1
        go_enter Tryd.func40, Tryd.ntmps40
        go_wp2_with (go_at_call 54; refine (Itoa_any _ _ (by omega) (by omega) HT.out).mono ?_; rintro e w1 ⟨rfl, hb1⟩)
        go_ret
        exact ⟨ret_str (by rw [HR2.out] <;> simp), hb1⟩
      · have e0 : (lo == 0) = false := by simpa using hl0
        have e1 : (lo == 1) = false := by simpa using hl1
        clear hl0 hl1
        go_enter Tryd.func40, Tryd.ntmps40
        go_wp2_with (go_at_call 54; refine (Itoa_any _ _ (by omega) (by omega) HT.out).mono ?_; rintro e w1 ⟨rfl, hb1⟩)
        go_ret
        exact ⟨ret_str (by rw [HR2.out] <;> simp), hb1⟩
    · by_cases hq : lo = 0 ∧ hi = 1
      · obtain ⟨rfl, rfl⟩ := hq
        go_enter Tryd.func40, Tryd.ntmps40
        go_wp2
        go_ret
        exact ⟨ret_str (by rw [← HR.out]; simp [oftS]), Below.refl _ _⟩
      have HR2 : Hid (R = 123 :: (dec lo ++ 44 :: (dec hi ++ [125]))) := Lib.hid (by
        rw [← HR.out]; unfold oftS
        rw [if_neg (by omega), if_neg (by omega), if_neg (by omega), if_neg hlh, if_neg (by omega)])
      have e3 : (lo == hi) = false := by simpa using hlh
      clear HR
      by_cases hl0 : lo = 0
      · subst hl0
        have e4 : (hi == 1) = false := by rw [beq_eq_false_iff_ne]; omega
        clear hq hlh
        go_enter Tryd.func40, Tryd.ntmps40
        go_wp2_with (go_at_call 54; refine (Itoa_any _ _ (by omega) (by omega) HT.out).mono ?_)
        first | rintro e w1 rfl hb1 | rintro e w1 ⟨rfl, hb1⟩
        have HT2 := Lib.hid (HT.out.keep hb1)
        go_wp2_with (go_at_call 54; refine (Itoa_any _ _ (by omega) (by omega) HT2.out).mono ?_)
        first | rintro e w2 rfl hb2 | rintro e w2 ⟨rfl, hb2⟩
        go_wp2
        go_ret
        exact ⟨ret_str (by rw [HR2.out] <;> simp), hb1.trans (hb2.mono hb1.size)⟩
      by_cases hl1 : lo = 1
      · subst hl1
        clear hq hlh
        go_enter Tryd.func40, Tryd.ntmps40
        go_wp2_with (go_at_call 54; refine (Itoa_any _ _ (by omega) (by omega) HT.out).mono ?_)
        first | rintro e w1 rfl hb1 | rintro e w1 ⟨rfl, hb1⟩
        have HT2 := Lib.hid (HT.out.keep hb1)
        go_wp2_with (go_at_call 54; refine (Itoa_any _ _ (by omega) (by omega) HT2.out).mono ?_)
        first | rintro e w2 rfl hb2 | rintro e w2 ⟨rfl, hb2⟩
        go_wp2
        go_ret
        exact ⟨ret_str (by rw [HR2.out] <;> simp), hb1.trans (hb2.mono hb1.size)⟩
      · have e0 : (lo == 0) = false := by simpa using hl0
        have e1 : (lo == 1) = false := by simpa using hl1
        clear hl0 hl1 hq hlh
        go_enter Tryd.func40, Tryd.ntmps40
        go_wp2_with (go_at_call 54; refine (Itoa_any _ _ (by omega) (by omega) HT.out).mono ?_)
        first | rintro e w1 rfl hb1 | rintro e w1 ⟨rfl, hb1⟩
        have HT2 := Lib.hid (HT.out.keep hb1)
        go_wp2_with (go_at_call 54; refine (Itoa_any _ _ (by omega) (by omega) HT2.out).mono ?_)
        first | rintro e w2 rfl hb2 | rintro e w2 ⟨rfl, hb2⟩
        go_wp2
        go_ret
        exact ⟨ret_str (by rw [HR2.out] <;> simp), hb1.trans (hb2.mono hb1.size)⟩
end Go.Proofs.YtpggnfpjjppbmaaDoor
set_option maxRecDepth 100000
namespace Go.Proofs.YtpggnfpjjppbmaaDoor
open Go.RowKit
theorem Fr.held {B g : Nat} {w w' : World} (h : Fr B [g] [5] w w') {k : Nat} {cs : Array Value} {T : TypeId} {m : Nat × Nat} (hk : w.heap[k]? = some (.cells cs T m)) (hT : T ≠ 5) (hg : k ≠ g) : w'.heap[k]? = some (.cells cs T m) :=
  (h.block k (heap_lt hk) (by simpa using hg) (.inr (by intro e he; simp at he; subst he; simp [tagOf, hk, hT]))).trans hk
def SetRel (B g : Nat) (rs : List (Str × Str)) (T : Str) (w1 : World) (q : Value) (wr : World) : Prop :=
  ∃ (k : Nat) (acc : Str), k ≤ rs.length ∧ q = .int .i64 k ∧ Bld B g acc wr ∧ Fr B [g] [5] w1 wr ∧ acc.length ≤ 20000000 ∧ Hid (acc ++ (rs.drop k).flatMap rowS = T)
set_option maxHeartbeats 4000000 in
theorem set_any (B g : Nat) (acc : Str) (kd : Int) (c : Str) (ng : Bool) (ra : Option Addr) (rs : List (Str × Str)) (rc : Nat) (lo hi : Int) (lz : Bool) (ka : Option Addr) (kn kc : Nat) (w : World)
    (hbl : Bld B g acc w) (hB : B ≤ w.heap.size) (hr : Sl w B ra 2 rs.length (rcells rs)) (hne : ∀ r ∈ rs, r.1 ≠ [] ∧ r.2 ≠ []) (hsz : ∀ r ∈ rs, r.1.length ≤ 1000000 ∧ r.2.length ≤ 1000000) (hrl : rs.length ≤ 1000000)
    (hlen : (acc ++ setS ng rs).length ≤ 10000000) :
    Calls Tryd.prog 39 #[.pointer (some ⟨g, 0, none⟩), .agg #[.int .i64 kd, .string ⟨(c).toArray⟩, .bool ng, .slice ra rs.length rc, .int .i64 lo, .int .i64 hi, .bool lz, .slice ka kn kc]] w fun e w' => e = .returned (.tuple #[]) ∧ Bld B g (acc ++ setS ng rs) w' ∧ Fr B [g] [5] w w' := by
  have HNE := Lib.hid hne
  have HSZ := Lib.hid hsz
  clear hne hsz
  have hal : acc.length ≤ 10000000 := by simp only [List.length_append] at hlen; omega
  have hgl0 := hbl.lt
  cases ng with
  | false =>
    simp only [setS, List.length_append, List.length_cons, Bool.false_eq_true, if_false, List.nil_append] at hlen
    go_enter Tryd.func39, Tryd.ntmps39
    go_wp2_with (go_at_call 36; refine (WriteByte_any B _ (acc) 91 _ (hbl.alloc _) (by first | omega | (simp; done) | (simp; omega)) (by first | omega | (simp; done) | (simp; omega)) (by decide) (by decide)).mono ?_)
    first | rintro e w1 rfl hbl1 hfr1 | rintro e w1 ⟨rfl, hbl1, hfr1⟩
    have hbx0 := hfr1.held (heap_alloc_new w _) (by decide) (Nat.ne_of_gt hbl.lt)
    have z2 : w1.cell? ⟨w.heap.size, 2, none⟩ = some (.bool false) := by rw [Lib.cell_of_heap hbx0]; rfl
    clear hbx0
    have hbx1 := (hfr1).held (heap_alloc_new w _) (by decide) (Nat.ne_of_gt hbl.lt)
    have z3 : w1.cell? ⟨w.heap.size, 3, none⟩ = some (.slice ra rs.length rc) := by rw [Lib.cell_of_heap hbx1]; rfl
    have hB1 : B ≤ w1.heap.size := by have := (hfr1).size; simp at this; omega
    have HR1 := Lib.hid (hr.keep (((Below.refl B w).alloc hB _).trans ((hfr1).below (by simp; omega) (by simp; exact hbl.le))))
    obtain ⟨T, hT⟩ : ∃ T, (acc ++ [91]) ++ rs.flatMap rowS = T := ⟨_, rfl⟩
    have HT0 : Hid ((acc ++ [91]) ++ (rs.drop 0).flatMap rowS = T) := Lib.hid hT
    have HTL : T.length ≤ 15000000 := by rw [← hT]; have h := hlen; simp only [List.length_append, List.length_cons, List.length_nil] at h ⊢; omega
    have HTT := Lib.hid hT
    have HFR0 := Lib.hid hfr1
    have HBX := Lib.hid hbx1
    clear hT hbx1
    go_wp2
    go_loopw [15] (fun q wr => SetRel B g rs T w1 q wr) (fun q _ => rs.length - (intOf q).toNat)
    case atStart => exact ⟨0, acc ++ [91], by omega, rfl, hbl1, Fr.refl _ _ _ _, by have h := hlen; simp only [List.length_append, List.length_cons, List.length_nil] at h ⊢; omega, HT0⟩
    case round =>
      obtain ⟨k, ac, hk, rfl, hblr, hfrr, hacl, HF⟩ := hrel
      clear HT0 z3
      have hBr : B ≤ wr.heap.size := Nat.le_trans hB1 hfrr.size
      have hbB := hfrr.below hB1 (by simp; exact hbl.le)
      have hgl := hblr.lt
      cases hd : rs.drop k with
      | nil =>
        have h2 : rs.length ≤ k := by simpa using hd
        have HE : Hid (ac = T) := Lib.hid (by rw [← HF.out, hd]; simp)
        clear hd HF
        go_wp2_with (go_at_call 36; refine (WriteByte_any B _ (ac) 93 _ (hblr) (by first | omega | (simp; done) | (simp; omega)) (by first | omega | (simp; done) | (simp; omega)) (by decide) (by decide)).mono ?_)
        first | rintro e w9 rfl hbl9 hfr9 | rintro e w9 ⟨rfl, hbl9, hfr9⟩
        go_wp2_with fail
        go_end0
        refine ⟨rfl, ?_, ((((Fr.refl B [g] [5] w).alloc _).trans HFR0.out).trans hfrr).trans hfr9⟩
        have h := hbl9
        rw [HE.out, ← HTT.out] at h
        simpa [setS] using h
      | cons r0 r =>
        obtain ⟨h2, h3, hr0⟩ := ldrop_cons hd
        obtain ⟨n1, n2⟩ := HNE.out r0 (List.mem_of_getElem? h3)
        obtain ⟨b, o, rfl, hbb, c0, c1⟩ := (HR1.out.keep hbB).row h3
        obtain ⟨f, t⟩ := r0
        replace n1 : f ≠ [] := n1
        replace n2 : t ≠ [] := n2
        replace c0 : wr.cell? ⟨b, o + k * 2, none⟩ = some (.string ⟨(f).toArray⟩) := c0
        replace c1 : wr.cell? ⟨b, o + k * 2 + 1, none⟩ = some (.string ⟨(t).toArray⟩) := c1
        have HE : Hid (ac ++ (rowS (f, t) ++ r.flatMap rowS) = T) := Lib.hid (by rw [← HF.out, hd]; rfl)
        have Hr := Lib.hid hr0
        have hsl : ac.length + (escL th2 f).length + (if t = f then 0 else (escL th2 t).length + 1) ≤ 15000000 := by
          have h := congrArg List.length HE.out
          simp only [List.length_append, rowS] at h
          split <;> simp_all <;> omega
        obtain ⟨l1, l2⟩ := HSZ.out (f, t) (List.mem_of_getElem? h3)
        replace l1 : f.length ≤ 1000000 := l1
        replace l2 : t.length ≤ 1000000 := l2
        have q1 := escL_len th2 f
        have q2 := escL_len th2 t
        have N1 := Lib.hid n1; have N2 := Lib.hid n2
        clear hd HF hr0 h3 n1 n2
        go_wp2_with (first | (go_at_call 38; refine (escape_any _ _ _ N1.out (by omega)).mono ?_; rintro e w2 ⟨rfl, rfl⟩; rw [show [94, 45, 92, 91, 93, 47] = th2 from rfl]) | (go_at_call 37; refine (WriteString_any B _ (ac) _ _ (hblr.alloc _) (by first | omega | (simp; done) | (simp; omega)) (by first | omega | (simp; done) | (simp; omega)) (by first | omega | (simp; done) | (simp; omega))).mono ?_))
        first | rintro e w2 rfl hbl2 hfr2 | rintro e w2 ⟨rfl, hbl2, hfr2⟩
        have hbx2 := hfr2.held (heap_alloc_new wr _) (by decide) (Nat.ne_of_gt hgl)
        have y0 : w2.cell? ⟨wr.heap.size, 0, none⟩ = some (.string ⟨(f).toArray⟩) := by rw [Lib.cell_of_heap hbx2]; rfl
        have y1 : w2.cell? ⟨wr.heap.size, 1, none⟩ = some (.string ⟨(t).toArray⟩) := by rw [Lib.cell_of_heap hbx2]; rfl
        have hf2 := ((Fr.refl B [g] [5] wr).alloc _).trans hfr2
        have hB2 : B ≤ w2.heap.size := Nat.le_trans hBr hf2.size
        have HFR2 := Lib.hid (hfrr.trans hf2)
        have HBX2 := Lib.hid hbx2
        clear hbx2 hf2 hfr2
        by_cases htf : t = f
        · have HT2 := Lib.hid htf
          subst htf
          go_wp2
          go_roundw
          case rel => exact ⟨k + 1, ac ++ escL th2 t, by omega, by go_num, hbl2, HFR2.out, by simp only [List.length_append]; simp at hsl; omega, Lib.hid (by rw [Hr.out, ← HE.out]; simp [rowS])⟩
          case measure => simp [intOf]; omega
        · have hne : (t == f) = false := by simpa using htf
          have HT2 := Lib.hid htf
          rw [if_neg htf] at hsl
          clear htf
          go_wp2_with (go_at_call 36; refine (WriteByte_any B _ (ac ++ escL th2 f) 45 _ (hbl2) (by first | omega | (simp; done) | (simp; omega)) (by first | omega | (simp; done) | (simp; omega)) (by decide) (by decide)).mono ?_)
          first | rintro e w3 rfl hbl3 hfr3 | rintro e w3 ⟨rfl, hbl3, hfr3⟩
          have hbx3 := hfr3.held HBX2.out (by decide) (Nat.ne_of_gt hgl)
          have y2 : w3.cell? ⟨wr.heap.size, 1, none⟩ = some (.string ⟨(t).toArray⟩) := by rw [Lib.cell_of_heap hbx3]; rfl
          have hB3 : B ≤ w3.heap.size := Nat.le_trans hB2 hfr3.size
          have HFR3 := Lib.hid (HFR2.out.trans hfr3)
          clear hbx3 hfr3
          go_wp2_with (first | (go_at_call 38; refine (escape_any _ _ _ N2.out (by omega)).mono ?_; rintro e w4 ⟨rfl, rfl⟩; rw [show [94, 45, 92, 91, 93, 47] = th2 from rfl]) | (go_at_call 37; refine (WriteString_any B _ (ac ++ escL th2 f ++ [45]) _ _ (hbl3) (by first | omega | (simp; done) | (simp; omega)) (by first | omega | (simp; done) | (simp; omega)) (by first | omega | (simp; done) | (simp; omega))).mono ?_))
          first | rintro e w4 rfl hbl4 hfr4 | rintro e w4 ⟨rfl, hbl4, hfr4⟩
          go_wp2_with fail
          go_roundw
          case rel => exact ⟨k + 1, ac ++ escL th2 f ++ [45] ++ escL th2 t, by omega, by go_num, hbl4, HFR3.out.trans hfr4, by simp only [List.length_append, List.length_cons, List.length_nil]; omega, Lib.hid (by rw [Hr.out, ← HE.out]; simp [rowS, HT2.out])⟩
          case measure => simp [intOf]; omega
  | true =>
    simp only [setS, List.length_append, List.length_cons, if_true, List.length_nil] at hlen
    go_enter Tryd.func39, Tryd.ntmps39
    go_wp2_with (go_at_call 36; refine (WriteByte_any B _ (acc) 91 _ (hbl.alloc _) (by first | omega | (simp; done) | (simp; omega)) (by first | omega | (simp; done) | (simp; omega)) (by decide) (by decide)).mono ?_)
    first | rintro e w1 rfl hbl1 hfr1 | rintro e w1 ⟨rfl, hbl1, hfr1⟩
    have hbx0 := hfr1.held (heap_alloc_new w _) (by decide) (Nat.ne_of_gt hbl.lt)
    have z2 : w1.cell? ⟨w.heap.size, 2, none⟩ = some (.bool true) := by rw [Lib.cell_of_heap hbx0]; rfl
    have hB1' : B ≤ w1.heap.size := by have := hfr1.size; simp at this; omega
    clear hbx0
    go_wp2_with (go_at_call 36; refine (WriteByte_any B _ (acc ++ [91]) 94 _ (hbl1) (by first | omega | (simp; done) | (simp; omega)) (by first | omega | (simp; done) | (simp; omega)) (by decide) (by decide)).mono ?_)
    first | rintro e w1b rfl hbl1b hfr1b | rintro e w1b ⟨rfl, hbl1b, hfr1b⟩
    have hfrx := hfr1.trans hfr1b
    clear z2
    have hbx1 := (hfrx).held (heap_alloc_new w _) (by decide) (Nat.ne_of_gt hbl.lt)
    have z3 : w1b.cell? ⟨w.heap.size, 3, none⟩ = some (.slice ra rs.length rc) := by rw [Lib.cell_of_heap hbx1]; rfl
    have hB1 : B ≤ w1b.heap.size := by have := (hfrx).size; simp at this; omega
    have HR1 := Lib.hid (hr.keep (((Below.refl B w).alloc hB _).trans ((hfrx).below (by simp; omega) (by simp; exact hbl.le))))
    obtain ⟨T, hT⟩ : ∃ T, (acc ++ [91] ++ [94]) ++ rs.flatMap rowS = T := ⟨_, rfl⟩
    have HT0 : Hid ((acc ++ [91] ++ [94]) ++ (rs.drop 0).flatMap rowS = T) := Lib.hid hT
    have HTL : T.length ≤ 15000000 := by rw [← hT]; have h := hlen; simp only [List.length_append, List.length_cons, List.length_nil] at h ⊢; omega
    have HTT := Lib.hid hT
    have HFR0 := Lib.hid hfrx
    have HBX := Lib.hid hbx1
    clear hT hbx1
    go_wp2
    go_loopw [15] (fun q wr => SetRel B g rs T w1b q wr) (fun q _ => rs.length - (intOf q).toNat)
    case atStart => exact ⟨0, acc ++ [91] ++ [94], by omega, rfl, hbl1b, Fr.refl _ _ _ _, by have h := hlen; simp only [List.length_append, List.length_cons, List.length_nil] at h ⊢; omega, HT0⟩
    case round =>
      obtain ⟨k, ac, hk, rfl, hblr, hfrr, hacl, HF⟩ := hrel
      clear HT0 z3
      have hBr : B ≤ wr.heap.size := Nat.le_trans hB1 hfrr.size
      have hbB := hfrr.below hB1 (by simp; exact hbl.le)
      have hgl := hblr.lt
      cases hd : rs.drop k with
      | nil =>
        have h2 : rs.length ≤ k := by simpa using hd
        have HE : Hid (ac = T) := Lib.hid (by rw [← HF.out, hd]; simp)
        clear hd HF
        go_wp2_with (go_at_call 36; refine (WriteByte_any B _ (ac) 93 _ (hblr) (by first | omega | (simp; done) | (simp; omega)) (by first | omega | (simp; done) | (simp; omega)) (by decide) (by decide)).mono ?_)
        first | rintro e w9 rfl hbl9 hfr9 | rintro e w9 ⟨rfl, hbl9, hfr9⟩
        go_wp2_with fail
        go_end0
        refine ⟨rfl, ?_, ((((Fr.refl B [g] [5] w).alloc _).trans HFR0.out).trans hfrr).trans hfr9⟩
        have h := hbl9
        rw [HE.out, ← HTT.out] at h
        simpa [setS] using h
      | cons r0 r =>
        obtain ⟨h2, h3, hr0⟩ := ldrop_cons hd
        obtain ⟨n1, n2⟩ := HNE.out r0 (List.mem_of_getElem? h3)
        obtain ⟨b, o, rfl, hbb, c0, c1⟩ := (HR1.out.keep hbB).row h3
        obtain ⟨f, t⟩ := r0
        replace n1 : f ≠ [] := n1
        replace n2 : t ≠ [] := n2
        replace c0 : wr.cell? ⟨b, o + k * 2, none⟩ = some (.string ⟨(f).toArray⟩) := c0
        replace c1 : wr.cell? ⟨b, o + k * 2 + 1, none⟩ = some (.string ⟨(t).toArray⟩) := c1
        have HE : Hid (ac ++ (rowS (f, t) ++ r.flatMap rowS) = T) := Lib.hid (by rw [← HF.out, hd]; rfl)
        have Hr := Lib.hid hr0
        have hsl : ac.length + (escL th2 f).length + (if t = f then 0 else (escL th2 t).length + 1) ≤ 15000000 := by
          have h := congrArg List.length HE.out
          simp only [List.length_append, rowS] at h
          split <;> simp_all <;> omega
        obtain ⟨l1, l2⟩ := HSZ.out (f, t) (List.mem_of_getElem? h3)
        replace l1 : f.length ≤ 1000000 := l1
        replace l2 : t.length ≤ 1000000 := l2
        have q1 := escL_len th2 f
        have q2 := escL_len th2 t
        have N1 := Lib.hid n1; have N2 := Lib.hid n2
        clear hd HF hr0 h3 n1 n2
        go_wp2_with (first | (go_at_call 38; refine (escape_any _ _ _ N1.out (by omega)).mono ?_; rintro e w2 ⟨rfl, rfl⟩; rw [show [94, 45, 92, 91, 93, 47] = th2 from rfl]) | (go_at_call 37; refine (WriteString_any B _ (ac) _ _ (hblr.alloc _) (by first | omega | (simp; done) | (simp; omega)) (by first | omega | (simp; done) | (simp; omega)) (by first | omega | (simp; done) | (simp; omega))).mono ?_))
        first | rintro e w2 rfl hbl2 hfr2 | rintro e w2 ⟨rfl, hbl2, hfr2⟩
        have hbx2 := hfr2.held (heap_alloc_new wr _) (by decide) (Nat.ne_of_gt hgl)
        have y0 : w2.cell? ⟨wr.heap.size, 0, none⟩ = some (.string ⟨(f).toArray⟩) := by rw [Lib.cell_of_heap hbx2]; rfl
        have y1 : w2.cell? ⟨wr.heap.size, 1, none⟩ = some (.string ⟨(t).toArray⟩) := by rw [Lib.cell_of_heap hbx2]; rfl
        have hf2 := ((Fr.refl B [g] [5] wr).alloc _).trans hfr2
        have hB2 : B ≤ w2.heap.size := Nat.le_trans hBr hf2.size
        have HFR2 := Lib.hid (hfrr.trans hf2)
        have HBX2 := Lib.hid hbx2
        clear hbx2 hf2 hfr2
        by_cases htf : t = f
        · have HT2 := Lib.hid htf
          subst htf
          go_wp2
          go_roundw
          case rel => exact ⟨k + 1, ac ++ escL th2 t, by omega, by go_num, hbl2, HFR2.out, by simp only [List.length_append]; simp at hsl; omega, Lib.hid (by rw [Hr.out, ← HE.out]; simp [rowS])⟩
          case measure => simp [intOf]; omega
        · have hne : (t == f) = false := by simpa using htf
          have HT2 := Lib.hid htf
          rw [if_neg htf] at hsl
          clear htf
          go_wp2_with (go_at_call 36; refine (WriteByte_any B _ (ac ++ escL th2 f) 45 _ (hbl2) (by first | omega | (simp; done) | (simp; omega)) (by first | omega | (simp; done) | (simp; omega)) (by decide) (by decide)).mono ?_)
          first | rintro e w3 rfl hbl3 hfr3 | rintro e w3 ⟨rfl, hbl3, hfr3⟩
          have hbx3 := hfr3.held HBX2.out (by decide) (Nat.ne_of_gt hgl)
          have y2 : w3.cell? ⟨wr.heap.size, 1, none⟩ = some (.string ⟨(t).toArray⟩) := by rw [Lib.cell_of_heap hbx3]; rfl
          have hB3 : B ≤ w3.heap.size := Nat.le_trans hB2 hfr3.size
          have HFR3 := Lib.hid (HFR2.out.trans hfr3)
          clear hbx3 hfr3
          go_wp2_with (first | (go_at_call 38; refine (escape_any _ _ _ N2.out (by omega)).mono ?_; rintro e w4 ⟨rfl, rfl⟩; rw [show [94, 45, 92, 91, 93, 47] = th2 from rfl]) | (go_at_call 37; refine (WriteString_any B _ (ac ++ escL th2 f ++ [45]) _ _ (hbl3) (by first | omega | (simp; done) | (simp; omega)) (by first | omega | (simp; done) | (simp; omega)) (by first | omega | (simp; done) | (simp; omega))).mono ?_))
          first | rintro e w4 rfl hbl4 hfr4 | rintro e w4 ⟨rfl, hbl4, hfr4⟩
          go_wp2_with fail
          go_roundw
          case rel => exact ⟨k + 1, ac ++ escL th2 f ++ [45] ++ escL th2 t, by omega, by go_num, hbl4, HFR3.out.trans hfr4, by simp only [List.length_append, List.length_cons, List.length_nil]; omega, Lib.hid (by rw [Hr.out, ← HE.out]; simp [rowS, HT2.out])⟩
          case measure => simp [intOf]; omega
end Go.Proofs.YtpggnfpjjppbmaaDoor
set_option maxRecDepth 100000
namespace Go.Proofs.YtpggnfpjjppbmaaDoor
open Go.RowKit
def ShwPost (B g : Nat) (out : Str) (w : World) (e : Ending) (w' : World) : Prop := e = .returned (.tuple #[]) ∧ Bld B g out w' ∧ Fr B [g] [5] w w'
def TellRel (B g : Nat) (ks : List Rx) (f : Nat → List Rx → Str) (T : Str) (w1 : World) (q : Value) (wr : World) : Prop :=
  ∃ (k : Nat) (acc : Str), k ≤ ks.length ∧ q = .int .i64 k ∧ Bld B g acc wr ∧ Fr B [g] [5] w1 wr ∧ Hid (acc ++ f k (ks.drop k) = T)
theorem Kept.fr {B g : Nat} {w w' : World} (h : Fr B [g] [5] w w') (hB : B ≤ w.heap.size) (hg : B ≤ g) : Kept (· < B) w w' := Kept.below (h.below hB (by simpa using hg)) (fun _ h _ => h)
/-! the parts of a constant text -/
set_option maxHeartbeats 4000000 in
theorem show_const (B g : Nat) (acc : Str) (K : Int) (hK : K = 3 ∨ K = 8 ∨ K = 9 ∨ K = 10 ∨ K = 11) (c : Str) (ng : Bool) (ra : Option Addr) (rs : List (Str × Str)) (rn rc : Nat) (lo hi : Int) (lz : Bool) (ka : Option Addr) (ks : List Rx) (kn kc : Nat) (w : World)
    (hbl : Bld B g acc w) (hB : B ≤ w.heap.size) (hlen : acc.length ≤ 10000000) :
    Calls Tryd.prog 22 #[.pointer (some ⟨g, 0, none⟩), .agg #[.int .i64 K, .string ⟨(c).toArray⟩, .bool ng, .slice ra rn rc, .int .i64 lo, .int .i64 hi, .bool lz, .slice ka kn kc]] w fun e w' => ShwPost B g (acc ++ (Rx.mk K c ng rs lo hi lz ks).tell) w e w' := by
  have hg := hbl.lt
  rcases hK with rfl | rfl | rfl | rfl | rfl
  · skip
    go_enter Tryd.func22, Tryd.ntmps22
    go_wp2_with (go_at_call 36; refine (WriteByte_any B _ (acc) 46 _ (hbl.alloc _) (by first | omega | (simp; done) | (simp; omega)) (by first | omega | (simp; done) | (simp; omega)) (by decide) (by decide)).mono ?_)
    first | rintro e w1 rfl hbl1 hfr1 | rintro e w1 ⟨rfl, hbl1, hfr1⟩
    go_wp2
    go_end0
    exact ⟨rfl, by simpa [Rx.tell] using hbl1, ((Fr.refl _ _ _ _).alloc _).trans hfr1⟩
  · skip
    go_enter Tryd.func22, Tryd.ntmps22
    go_wp2_with (go_at_call 36; refine (WriteByte_any B _ (acc) 94 _ (hbl.alloc _) (by first | omega | (simp; done) | (simp; omega)) (by first | omega | (simp; done) | (simp; omega)) (by decide) (by decide)).mono ?_)
    first | rintro e w1 rfl hbl1 hfr1 | rintro e w1 ⟨rfl, hbl1, hfr1⟩
    go_wp2
    go_end0
    exact ⟨rfl, by simpa [Rx.tell] using hbl1, ((Fr.refl _ _ _ _).alloc _).trans hfr1⟩
  · skip
    go_enter Tryd.func22, Tryd.ntmps22
    go_wp2_with (go_at_call 36; refine (WriteByte_any B _ (acc) 36 _ (hbl.alloc _) (by first | omega | (simp; done) | (simp; omega)) (by first | omega | (simp; done) | (simp; omega)) (by decide) (by decide)).mono ?_)
    first | rintro e w1 rfl hbl1 hfr1 | rintro e w1 ⟨rfl, hbl1, hfr1⟩
    go_wp2
    go_end0
    exact ⟨rfl, by simpa [Rx.tell] using hbl1, ((Fr.refl _ _ _ _).alloc _).trans hfr1⟩
  · skip
    go_enter Tryd.func22, Tryd.ntmps22
    go_wp2_with (go_at_call 37; refine (WriteString_any B _ (acc) _ _ (hbl.alloc _) (by first | omega | (simp; done) | (simp; omega)) (by first | omega | (simp; done) | (simp; omega)) (by first | omega | (simp; done) | (simp; omega))).mono ?_)
    first | rintro e w1 rfl hbl1 hfr1 | rintro e w1 ⟨rfl, hbl1, hfr1⟩
    go_wp2
    go_end0
    exact ⟨rfl, by simpa [Rx.tell] using hbl1, ((Fr.refl _ _ _ _).alloc _).trans hfr1⟩
  · skip
    go_enter Tryd.func22, Tryd.ntmps22
    go_wp2_with (go_at_call 37; refine (WriteString_any B _ (acc) _ _ (hbl.alloc _) (by first | omega | (simp; done) | (simp; omega)) (by first | omega | (simp; done) | (simp; omega)) (by first | omega | (simp; done) | (simp; omega))).mono ?_)
    first | rintro e w1 rfl hbl1 hfr1 | rintro e w1 ⟨rfl, hbl1, hfr1⟩
    go_wp2
    go_end0
    exact ⟨rfl, by simpa [Rx.tell] using hbl1, ((Fr.refl _ _ _ _).alloc _).trans hfr1⟩
set_option maxHeartbeats 4000000 in
theorem show_char (B g : Nat) (acc : Str) (c : Str) (ng : Bool) (ra : Option Addr) (rs : List (Str × Str)) (rn rc : Nat) (lo hi : Int) (lz : Bool) (ka : Option Addr) (ks : List Rx) (kn kc : Nat) (w : World)
    (hbl : Bld B g acc w) (hB : B ≤ w.heap.size) (hlen : acc.length ≤ 10000000) (hc : c ≠ []) (hcl : c.length ≤ 1000000) :
    Calls Tryd.prog 22 #[.pointer (some ⟨g, 0, none⟩), .agg #[.int .i64 2, .string ⟨(c).toArray⟩, .bool ng, .slice ra rn rc, .int .i64 lo, .int .i64 hi, .bool lz, .slice ka kn kc]] w fun e w' => ShwPost B g (acc ++ (Rx.mk 2 c ng rs lo hi lz ks).tell) w e w' := by
  have HC := Lib.hid hc
  have hq := escL_len th1 c
  clear hc
  go_enter Tryd.func22, Tryd.ntmps22
  go_wp2_with (first | (go_at_call 38; refine (escape_any _ _ _ HC.out (by omega)).mono ?_; rintro e w2 ⟨rfl, rfl⟩; rw [show [94, 36, 92, 46, 42, 43, 63, 40, 41, 91, 93, 123, 125, 124, 47] = th1 from rfl]) | (go_at_call 37; refine (WriteString_any B _ (acc) _ _ (hbl.alloc _) (by first | omega | (simp; done) | (simp; omega)) (by first | omega | (simp; done) | (simp; omega)) (by first | omega | (simp; done) | (simp; omega))).mono ?_))
  first | rintro e w1 rfl hbl1 hfr1 | rintro e w1 ⟨rfl, hbl1, hfr1⟩
  go_wp2
  go_end0
  exact ⟨rfl, by simpa [Rx.tell] using hbl1, ((Fr.refl _ _ _ _).alloc _).trans hfr1⟩
set_option maxHeartbeats 4000000 in
theorem show_set (B g : Nat) (acc : Str) (c : Str) (ng : Bool) (ra : Option Addr) (rs : List (Str × Str)) (rc : Nat) (lo hi : Int) (lz : Bool) (ka : Option Addr) (ks : List Rx) (kn kc : Nat) (w : World)
    (hbl : Bld B g acc w) (hB : B ≤ w.heap.size) (hr : Sl w B ra 2 rs.length (rcells rs)) (hne : ∀ r ∈ rs, r.1 ≠ [] ∧ r.2 ≠ []) (hsz : ∀ r ∈ rs, r.1.length ≤ 1000000 ∧ r.2.length ≤ 1000000) (hrl : rs.length ≤ 1000000)
    (hlen : (acc ++ setS ng rs).length ≤ 10000000) :
    Calls Tryd.prog 22 #[.pointer (some ⟨g, 0, none⟩), .agg #[.int .i64 4, .string ⟨(c).toArray⟩, .bool ng, .slice ra rs.length rc, .int .i64 lo, .int .i64 hi, .bool lz, .slice ka kn kc]] w fun e w' => ShwPost B g (acc ++ (Rx.mk 4 c ng rs lo hi lz ks).tell) w e w' := by
  have HNE := Lib.hid hne
  have HSZ := Lib.hid hsz
  have HLN := Lib.hid hlen
  have HR := Lib.hid (hr.keep ((Below.refl B w).alloc hB (.cells #[.int .i64 4, .string ⟨(c).toArray⟩, .bool ng, .slice ra rs.length rc, .int .i64 lo, .int .i64 hi, .bool lz, .slice ka kn kc] 25)))
  clear hne hsz hlen hr
  go_enter Tryd.func22, Tryd.ntmps22
  go_wp2_with (go_at_call 39; refine (set_any B g acc _ _ _ _ rs _ _ _ _ _ _ _ _ (hbl.alloc _) (by simp; omega) HR.out HNE.out HSZ.out hrl HLN.out).mono ?_)
  first | rintro e w1 rfl hbl1 hfr1 | rintro e w1 ⟨rfl, hbl1, hfr1⟩
  go_wp2
  go_end0
  exact ⟨rfl, by simpa [Rx.tell] using hbl1, ((Fr.refl _ _ _ _).alloc _).trans hfr1⟩
end Go.Proofs.YtpggnfpjjppbmaaDoor
set_option maxRecDepth 100000
namespace Go.Proofs.YtpggnfpjjppbmaaDoor
open Go.RowKit
def ShowC (B g : Nat) (x : Rx) : Prop := ∀ (cc : List Value) (acc : Str) (w : World), RxV w (· < B) cc x → Bld B g acc w → B ≤ w.heap.size → Tab w → (acc ++ x.tell).length ≤ 10000000 →
  Calls Tryd.prog 22 #[.pointer (some ⟨g, 0, none⟩), .agg cc.toArray] w fun e w' => ShwPost B g (acc ++ x.tell) w e w'
theorem ShowC.at_ {B g : Nat} {x : Rx} {out : Str} (h : ShowC B g x) {cc : List Value} {acc : Str} {w : World} (hv : RxV w (· < B) cc x) (hbl : Bld B g acc w) (hB : B ≤ w.heap.size) (ht : Tab w) (ho : acc ++ x.tell = out) (hl : out.length ≤ 10000000) :
    Calls Tryd.prog 22 #[.pointer (some ⟨g, 0, none⟩), .agg cc.toArray] w fun e w' => e = .returned (.tuple #[]) ∧ Bld B g out w' ∧ Fr B [g] [5] w w' := by
  subst ho; exact h cc acc w hv hbl hB ht hl
def tlF (_ : Nat) (ks : List Rx) : Str := Rx.tellL ks
def taF (k : Nat) (ks : List Rx) : Str := Rx.tellA (decide (0 < k)) ks
theorem end_fr {B g : Nat} {a w w' : World} (h : Fr B [g] [5] a w) (h' : Fr B [g] [5] w w') : Fr B [g] [5] a w' := h.trans h'
set_option maxHeartbeats 4000000 in
theorem show_seq (B g : Nat) (acc : Str) (c : Str) (ng : Bool) (ra : Option Addr) (rs : List (Str × Str)) (rn rc : Nat) (lo hi : Int) (lz : Bool) (ka : Option Addr) (ks : List Rx) (kc : Nat) (w : World)
    (ih : ∀ y ∈ ks, ShowC B g y) (hgT : 1 < B)
    (hbl : Bld B g acc w) (hB : B ≤ w.heap.size) (ht : Tab w) (hx : RxSl w (· < B) ka ks.length ks) (hkl : ks.length ≤ 1000000)
    (hlen : (acc ++ tlF 0 ks).length ≤ 10000000) :
    Calls Tryd.prog 22 #[.pointer (some ⟨g, 0, none⟩), .agg #[.int .i64 0, .string ⟨(c).toArray⟩, .bool ng, .slice ra rn rc, .int .i64 lo, .int .i64 hi, .bool lz, .slice ka ks.length kc]] w fun e w' => ShwPost B g (acc ++ (Rx.mk 0 c ng rs lo hi lz ks).tell) w e w' := by
  have IH := Lib.hid ih
  clear ih
  obtain ⟨T, hT⟩ : ∃ T, acc ++ tlF 0 ks = T := ⟨_, rfl⟩
  have HT0 : Hid (acc ++ tlF 0 (ks.drop 0) = T) := Lib.hid hT
  have HTL : T.length ≤ 10000000 := by rw [← hT]; exact hlen
  have HTT := Lib.hid hT
  clear hT hlen
  have hgl := hbl.lt
  have hgB := hbl.le
  obtain ⟨w0, hw0⟩ : ∃ w0, w0 = w.alloc (.cells #[.int .i64 0, .string ⟨(c).toArray⟩, .bool ng, .slice ra rn rc, .int .i64 lo, .int .i64 hi, .bool lz, .slice ka ks.length kc] 25) := ⟨_, rfl⟩
  have hb0 : Below w.heap.size w w0 := by rw [hw0]; exact (Below.refl _ _).alloc (Nat.le_refl _) _
  have HX := Lib.hid (hx.keep (Kept.all hb0))
  have hbl0 : Bld B g acc w0 := by rw [hw0]; exact hbl.alloc _
  have HTB := Lib.hid (ht.keep hb0)
  have hB0 : B ≤ w0.heap.size := Nat.le_trans hB hb0.size
  clear hx ht hbl
  go_enter Tryd.func22, Tryd.ntmps22
  go_wp2
  rw [← hw0]
  have hf0 : Fr B [g] [5] w w0 := Fr.of_below hb0 (Nat.le_refl _)
  clear hw0
  go_loopw [15] (fun q wr => TellRel B g ks tlF T w0 q wr) (fun q _ => ks.length - (intOf q).toNat)
  case atStart => exact ⟨0, acc, by omega, rfl, hbl0, Fr.refl _ _ _ _, HT0⟩
  case round =>
    obtain ⟨k, ac, hk, rfl, hblr, hfrr, HF⟩ := hrel
    clear HT0 hbl0
    have hBr : B ≤ wr.heap.size := Nat.le_trans hB0 hfrr.size
    have hkp := Kept.fr hfrr hB0 hgB
    have htr : Tab wr := HTB.out.keepB hgT (hfrr.below hB0 (by simpa using hgB))
    have hgl2 := hblr.lt
    have hacl : ac.length ≤ 10000000 := by have h := congrArg List.length HF.out; simp only [List.length_append] at h; omega
    cases hd : ks.drop k with
    | nil =>
      have h2 : ks.length ≤ k := by simpa using hd
      have HE : Hid (ac = T) := Lib.hid (by rw [← HF.out, hd]; simp [tlF, Rx.tellL])
      clear hd HF
      go_wp2
      go_end0
      exact ⟨rfl, by have h := hblr; rw [HE.out, ← HTT.out] at h; simpa [Rx.tell, tlF] using h, hf0.trans hfrr⟩
    | cons y r =>
      obtain ⟨h2, h3, hr⟩ := ldrop_cons hd
      have hymem := List.mem_of_getElem? h3
      obtain ⟨yk, yc, yn, yr, yl, yh, yz, ys⟩ := y
      obtain ⟨b, o, ya, yrc, yka, ykc, rfl, hS, hbB, _, _, hyv, c0, c1, c2, c3, c4, c5, c6, c7⟩ := (HX.out.keep hkp).cells h3
      have Hr := Lib.hid hr
      have HYV := Lib.hid (hyv.keep (Kept.all ((Below.refl wr.heap.size wr).alloc (Nat.le_refl _) (.cells (rxc yk yc yn ya yr.length yrc yl yh yz yka ys.length ykc).toArray 25))))
      unfold rxc at HYV
      have HE : Hid (ac ++ (Rx.tell (.mk yk yc yn yr yl yh yz ys) ++ tlF (k + 1) r) = T) := Lib.hid (by rw [← HF.out, hd]; rfl)
      have hol : (ac ++ Rx.tell (.mk yk yc yn yr yl yh yz ys)).length ≤ 10000000 := by have h := congrArg List.length HE.out; simp only [List.length_append] at h ⊢; omega
      have HTA := Lib.hid (htr.keep ((Below.refl wr.heap.size wr).alloc (Nat.le_refl _) (.cells (rxc yk yc yn ya yr.length yrc yl yh yz yka ys.length ykc).toArray 25)))
      unfold rxc at HTA
      clear hd HF hr h3 hyv htr
      go_wp2_with (go_at_call 22; refine ((IH.out _ hymem).at_ HYV.out (hblr.alloc _) (by simp; omega) HTA.out rfl hol).mono ?_)
      first | rintro e w2 rfl hbl2 hfr2 | rintro e w2 ⟨rfl, hbl2, hfr2⟩
      go_wp2_with fail
      go_roundw
      case rel => exact ⟨k + 1, _, by omega, by go_num, hbl2, hfrr.trans (((Fr.refl _ _ _ _).alloc _).trans hfr2), Lib.hid (by rw [Hr.out, ← HE.out, List.append_assoc])⟩
      case measure => simp [intOf]; omega
set_option maxHeartbeats 4000000 in
theorem show_alt (B g : Nat) (acc : Str) (c : Str) (ng : Bool) (ra : Option Addr) (rs : List (Str × Str)) (rn rc : Nat) (lo hi : Int) (lz : Bool) (ka : Option Addr) (ks : List Rx) (kc : Nat) (w : World)
    (ih : ∀ y ∈ ks, ShowC B g y) (hgT : 1 < B)
    (hbl : Bld B g acc w) (hB : B ≤ w.heap.size) (ht : Tab w) (hx : RxSl w (· < B) ka ks.length ks) (hkl : ks.length ≤ 1000000)
    (hlen : (acc ++ taF 0 ks).length ≤ 10000000) :
    Calls Tryd.prog 22 #[.pointer (some ⟨g, 0, none⟩), .agg #[.int .i64 1, .string ⟨(c).toArray⟩, .bool ng, .slice ra rn rc, .int .i64 lo, .int .i64 hi, .bool lz, .slice ka ks.length kc]] w fun e w' => ShwPost B g (acc ++ (Rx.mk 1 c ng rs lo hi lz ks).tell) w e w' := by
  have IH := Lib.hid ih
  clear ih
  obtain ⟨T, hT⟩ : ∃ T, acc ++ taF 0 ks = T := ⟨_, rfl⟩
  have HT0 : Hid (acc ++ taF 0 (ks.drop 0) = T) := Lib.hid hT
  have HTL : T.length ≤ 10000000 := by rw [← hT]; exact hlen
  have HTT := Lib.hid hT
  clear hT hlen
  have hgl := hbl.lt
  have hgB := hbl.le
  obtain ⟨w0, hw0⟩ : ∃ w0, w0 = w.alloc (.cells #[.int .i64 1, .string ⟨(c).toArray⟩, .bool ng, .slice ra rn rc, .int .i64 lo, .int .i64 hi, .bool lz, .slice ka ks.length kc] 25) := ⟨_, rfl⟩
  have hb0 : Below w.heap.size w w0 := by rw [hw0]; exact (Below.refl _ _).alloc (Nat.le_refl _) _
  have HX := Lib.hid (hx.keep (Kept.all hb0))
  have hbl0 : Bld B g acc w0 := by rw [hw0]; exact hbl.alloc _
  have HTB := Lib.hid (ht.keep hb0)
  have hB0 : B ≤ w0.heap.size := Nat.le_trans hB hb0.size
  clear hx ht hbl
  go_enter Tryd.func22, Tryd.ntmps22
  go_wp2
  rw [← hw0]
  have hf0 : Fr B [g] [5] w w0 := Fr.of_below hb0 (Nat.le_refl _)
  clear hw0
  go_loopw [28] (fun q wr => TellRel B g ks taF T w0 q wr) (fun q _ => ks.length - (intOf q).toNat)
  case atStart => exact ⟨0, acc, by omega, rfl, hbl0, Fr.refl _ _ _ _, HT0⟩
  case round =>
    obtain ⟨k, ac, hk, rfl, hblr, hfrr, HF⟩ := hrel
    clear HT0 hbl0
    have hBr : B ≤ wr.heap.size := Nat.le_trans hB0 hfrr.size
    have hkp := Kept.fr hfrr hB0 hgB
    have htr : Tab wr := HTB.out.keepB hgT (hfrr.below hB0 (by simpa using hgB))
    have hgl2 := hblr.lt
    have hacl : ac.length ≤ 10000000 := by have h := congrArg List.length HF.out; simp only [List.length_append] at h; omega
    cases hd : ks.drop k with
    | nil =>
      have h2 : ks.length ≤ k := by simpa using hd
      have HE : Hid (ac = T) := Lib.hid (by rw [← HF.out, hd]; simp [taF, Rx.tellA])
      clear hd HF
      go_wp2
      go_end0
      exact ⟨rfl, by have h := hblr; rw [HE.out, ← HTT.out] at h; simpa [Rx.tell, taF] using h, hf0.trans hfrr⟩
    | cons y r =>
      obtain ⟨h2, h3, hr⟩ := ldrop_cons hd
      have hymem := List.mem_of_getElem? h3
      obtain ⟨yk, yc, yn, yr, yl, yh, yz, ys⟩ := y
      obtain ⟨b, o, ya, yrc, yka, ykc, rfl, hS, hbB, _, _, hyv, c0, c1, c2, c3, c4, c5, c6, c7⟩ := (HX.out.keep hkp).cells h3
      have Hr := Lib.hid hr
      have HYV := Lib.hid (hyv.keep (Kept.all ((Below.refl wr.heap.size wr).alloc (Nat.le_refl _) (.cells (rxc yk yc yn ya yr.length yrc yl yh yz yka ys.length ykc).toArray 25))))
      unfold rxc at HYV
      have HE : Hid (ac ++ ((if 0 < k then [124] else []) ++ (Rx.tell (.mk yk yc yn yr yl yh yz ys) ++ taF (k + 1) r)) = T) := Lib.hid (by rw [← HF.out, hd]; simp [taF, Rx.tellA])
      have HTA := Lib.hid (htr.keep ((Below.refl wr.heap.size wr).alloc (Nat.le_refl _) (.cells (rxc yk yc yn ya yr.length yrc yl yh yz yka ys.length ykc).toArray 25)))
      unfold rxc at HTA
      by_cases hk0 : 0 < k
      · have HE2 : Hid (ac ++ [124] ++ Rx.tell (.mk yk yc yn yr yl yh yz ys) ++ taF (k + 1) r = T) := Lib.hid (by rw [← HE.out, if_pos hk0]; simp)
        have hol : (ac ++ [124] ++ Rx.tell (.mk yk yc yn yr yl yh yz ys)).length ≤ 10000000 := by have h := congrArg List.length HE2.out; simp only [List.length_append] at h ⊢; omega
        clear hd HF hr h3 hyv htr
        go_wp2_with (go_at_call 36; refine (WriteByte_any B _ (ac) 124 _ (hblr.alloc _) (by first | omega | (simp; done) | (simp; omega)) (by first | omega | (simp; done) | (simp; omega)) (by decide) (by decide)).mono ?_)
        first | rintro e w1 rfl hbl1 hfr1 | rintro e w1 ⟨rfl, hbl1, hfr1⟩
        have hbx1 := hfr1.held (heap_alloc_new wr _) (by decide) (Nat.ne_of_gt hgl2)
        have z0 : w1.cell? ⟨wr.heap.size, 0, none⟩ = some (.int .i64 yk) := (by rw [Lib.cell_of_heap hbx1]; rfl); have z1 : w1.cell? ⟨wr.heap.size, 1, none⟩ = some (.string ⟨(yc).toArray⟩) := (by rw [Lib.cell_of_heap hbx1]; rfl); have z2 : w1.cell? ⟨wr.heap.size, 2, none⟩ = some (.bool yn) := (by rw [Lib.cell_of_heap hbx1]; rfl); have z3 : w1.cell? ⟨wr.heap.size, 3, none⟩ = some (.slice ya yr.length yrc) := (by rw [Lib.cell_of_heap hbx1]; rfl); have z4 : w1.cell? ⟨wr.heap.size, 4, none⟩ = some (.int .i64 yl) := (by rw [Lib.cell_of_heap hbx1]; rfl); have z5 : w1.cell? ⟨wr.heap.size, 5, none⟩ = some (.int .i64 yh) := (by rw [Lib.cell_of_heap hbx1]; rfl); have z6 : w1.cell? ⟨wr.heap.size, 6, none⟩ = some (.bool yz) := (by rw [Lib.cell_of_heap hbx1]; rfl); have z7 : w1.cell? ⟨wr.heap.size, 7, none⟩ = some (.slice yka ys.length ykc) := (by rw [Lib.cell_of_heap hbx1]; rfl)
        have hBA : B ≤ (wr.alloc (.cells (rxc yk yc yn ya yr.length yrc yl yh yz yka ys.length ykc).toArray 25)).heap.size := by simp; omega
        have hB1 : B ≤ w1.heap.size := Nat.le_trans hBA hfr1.size
        have HYV1 := Lib.hid (HYV.out.keep (Kept.fr hfr1 hBA hgB))
        have HTA1 := Lib.hid (HTA.out.keepB hgT (hfr1.below hBA (by simpa using hgB)))
        have hfx := hfrr.trans (((Fr.refl _ _ _ _).alloc _).trans hfr1)
        clear hbx1 hfr1
        go_wp2_with (go_at_call 22; refine ((IH.out _ hymem).at_ HYV1.out hbl1 hB1 HTA1.out rfl hol).mono ?_)
        first | rintro e w2 rfl hbl2 hfr2 | rintro e w2 ⟨rfl, hbl2, hfr2⟩
        go_wp2_with fail
        go_roundw
        case rel => exact ⟨k + 1, _, by omega, by go_num, hbl2, hfx.trans hfr2, Lib.hid (by rw [Hr.out]; exact HE2.out)⟩
        case measure => simp [intOf]; omega
      · have hk1 : k = 0 := by omega
        subst hk1
        have HE2 : Hid (ac ++ Rx.tell (.mk yk yc yn yr yl yh yz ys) ++ taF (0 + 1) r = T) := Lib.hid (by rw [← HE.out, if_neg hk0]; simp)
        have hol : (ac ++ Rx.tell (.mk yk yc yn yr yl yh yz ys)).length ≤ 10000000 := by have h := congrArg List.length HE2.out; simp only [List.length_append] at h ⊢; omega
        simp only [Nat.zero_mul, Nat.add_zero] at c0 c1 c2 c3 c4 c5 c6 c7
        clear hd HF hr h3 hyv htr hk0
        go_wp2_with (go_at_call 22; refine ((IH.out _ hymem).at_ HYV.out (hblr.alloc _) (by simp; omega) HTA.out rfl hol).mono ?_)
        first | rintro e w2 rfl hbl2 hfr2 | rintro e w2 ⟨rfl, hbl2, hfr2⟩
        go_wp2_with fail
        go_roundw
        case rel => exact ⟨0 + 1, _, by omega, by go_num, hbl2, hfrr.trans (((Fr.refl _ _ _ _).alloc _).trans hfr2), Lib.hid (by rw [Hr.out]; exact HE2.out)⟩
        case measure => simp [intOf]; omega
end Go.Proofs.YtpggnfpjjppbmaaDoor
set_option maxRecDepth 100000
namespace Go.Proofs.YtpggnfpjjppbmaaDoor
open Go.RowKit
set_option maxHeartbeats 4000000 in
theorem show_group (B g : Nat) (acc : Str) (K : Int) (hK : K = 5 ∨ K = 6) (c : Str) (ng : Bool) (ra : Option Addr) (rs : List (Str × Str)) (rn rc : Nat) (lo hi : Int) (lz : Bool) (ka : Option Addr) (y : Rx) (kc : Nat) (w : World)
    (ih : ShowC B g y) (hgT : 1 < B)
    (hbl : Bld B g acc w) (hB : B ≤ w.heap.size) (ht : Tab w) (hx : RxSl w (· < B) ka 1 [y])
    (hlen : (acc ++ (Rx.mk K c ng rs lo hi lz [y]).tell).length ≤ 10000000) :
    Calls Tryd.prog 22 #[.pointer (some ⟨g, 0, none⟩), .agg #[.int .i64 K, .string ⟨(c).toArray⟩, .bool ng, .slice ra rn rc, .int .i64 lo, .int .i64 hi, .bool lz, .slice ka 1 kc]] w fun e w' => ShwPost B g (acc ++ (Rx.mk K c ng rs lo hi lz [y]).tell) w e w' := by
  have IH := Lib.hid ih
  clear ih
  rcases hK with rfl | rfl
  · have HO : Hid (acc ++ (Rx.mk 5 c ng rs lo hi lz [y]).tell = acc ++ [40] ++ y.tell ++ [41]) := Lib.hid (by simp [Rx.tell, Rx.tellL])
    rw [HO.out] at hlen ⊢
    simp only [List.length_append, List.length_cons, List.length_nil] at hlen
    obtain ⟨yk, yc, yn, yr, yl, yh, yz, ys⟩ := y
    have hgl := hbl.lt
    have hgB := hbl.le
    obtain ⟨w0, hw0⟩ : ∃ w0, w0 = w.alloc (.cells #[.int .i64 5, .string ⟨(c).toArray⟩, .bool ng, .slice ra rn rc, .int .i64 lo, .int .i64 hi, .bool lz, .slice ka 1 kc] 25) := ⟨_, rfl⟩
    have hb0 : Below w.heap.size w w0 := by rw [hw0]; exact (Below.refl _ _).alloc (Nat.le_refl _) _
    have hbx0 : w0.heap[w.heap.size]? = some (.cells #[.int .i64 5, .string ⟨(c).toArray⟩, .bool ng, .slice ra rn rc, .int .i64 lo, .int .i64 hi, .bool lz, .slice ka 1 kc] 25 (0, 0)) := by rw [hw0]; exact heap_alloc_new w _
    have HX := Lib.hid (hx.keep (Kept.all hb0))
    have hbl0 : Bld B g acc w0 := by rw [hw0]; exact hbl.alloc _
    have htb := ht.keep hb0
    have hB0 : B ≤ w0.heap.size := Nat.le_trans hB hb0.size
    have hf0 : Fr B [g] [5] w w0 := Fr.of_below hb0 (Nat.le_refl _)
    have hBX0 := Lib.hid hbx0
    have HTB := Lib.hid htb
    have HW0 := Lib.hid hw0
    clear hx ht htb hbl0 hw0
    obtain ⟨b, o, ya, yrc, yka, ykc, rfl, hS, hbB, _, _, hyv, c0, c1, c2, c3, c4, c5, c6, c7⟩ := HX.out.cells (m := 0) rfl
    have HYV := Lib.hid hyv
    unfold rxc at HYV
    simp only [Nat.zero_mul, Nat.add_zero] at c0 c1 c2 c3 c4 c5 c6 c7
    have C := Lib.hid (And.intro c0 (And.intro c1 (And.intro c2 (And.intro c3 (And.intro c4 (And.intro c5 (And.intro c6 c7)))))))
    clear c0 c1 c2 c3 c4 c5 c6 c7 hyv
    go_enter Tryd.func22, Tryd.ntmps22
    go_wp2_with (go_at_call 36; refine (WriteByte_any B _ (acc) 40 _ (hbl.alloc _) (by first | omega | (simp; done) | (simp; omega)) (by first | omega | (simp; done) | (simp; omega)) (by decide) (by decide)).mono ?_)
    first | rintro e w1 rfl hbl1 hfr1 | rintro e w1 ⟨rfl, hbl1, hfr1⟩
    rw [← HW0.out] at hfr1
    have hbx1 := hfr1.held hbx0 (by decide) (Nat.ne_of_gt hgl)
    have z0 : w1.cell? ⟨w.heap.size, 0, none⟩ = some (.int .i64 5) := (by rw [Lib.cell_of_heap hbx1]; rfl); have z7 : w1.cell? ⟨w.heap.size, 7, none⟩ = some (.slice (some ⟨b, o, none⟩) 1 kc) := (by rw [Lib.cell_of_heap hbx1]; rfl)
    have hB1 : B ≤ w1.heap.size := Nat.le_trans hB0 hfr1.size
    have hbw1 := hfr1.below hB0 (by simpa using hgB)
    have kb : b < B := hS
    have kc0 : ∀ j u, w0.cell? ⟨b, o + j, none⟩ = some u → w1.cell? ⟨b, o + j, none⟩ = some u := fun j u h => ((hbw1).cell (p := ⟨b, o + j, none⟩) kb).trans h
    have d0 : w1.cell? ⟨b, o, none⟩ = some (.int .i64 yk) := kc0 0 _ C.out.1
    have d1 := kc0 1 _ C.out.2.1
    have d2 := kc0 2 _ C.out.2.2.1
    have d3 := kc0 3 _ C.out.2.2.2.1
    have d4 := kc0 4 _ C.out.2.2.2.2.1
    have d5 := kc0 5 _ C.out.2.2.2.2.2.1
    have d6 := kc0 6 _ C.out.2.2.2.2.2.2.1
    have d7 := kc0 7 _ C.out.2.2.2.2.2.2.2
    clear kc0
    have HYV1 := Lib.hid (HYV.out.keep (Kept.fr hfr1 hB0 hgB))
    have HTB1 := Lib.hid (HTB.out.keepB hgT hbw1)
    have hfx := hf0.trans hfr1
    clear hbx1 hfr1 hbx0
    go_wp2_with (go_at_call 22; refine (IH.out.at_ HYV1.out hbl1 hB1 HTB1.out rfl (by simp only [List.length_append, List.length_cons, List.length_nil]; omega)).mono ?_)
    first | rintro e w2 rfl hbl2 hfr2 | rintro e w2 ⟨rfl, hbl2, hfr2⟩
    have hB2 : B ≤ w2.heap.size := Nat.le_trans hB1 hfr2.size
    go_wp2_with (go_at_call 36; refine (WriteByte_any B _ (acc ++ [40] ++ Rx.tell (.mk yk yc yn yr yl yh yz ys)) 41 _ (hbl2) (by first | omega | (simp; done) | (simp; omega)) (by first | omega | (simp; done) | (simp; omega)) (by decide) (by decide)).mono ?_)
    first | rintro e w3 rfl hbl3 hfr3 | rintro e w3 ⟨rfl, hbl3, hfr3⟩
    go_wp2_with fail
    go_end0
    exact ⟨rfl, hbl3, (hfx.trans hfr2).trans hfr3⟩
  · have HO : Hid (acc ++ (Rx.mk 6 c ng rs lo hi lz [y]).tell = acc ++ [40] ++ [63, 58] ++ y.tell ++ [41]) := Lib.hid (by simp [Rx.tell, Rx.tellL])
    rw [HO.out] at hlen ⊢
    simp only [List.length_append, List.length_cons, List.length_nil] at hlen
    obtain ⟨yk, yc, yn, yr, yl, yh, yz, ys⟩ := y
    have hgl := hbl.lt
    have hgB := hbl.le
    obtain ⟨w0, hw0⟩ : ∃ w0, w0 = w.alloc (.cells #[.int .i64 6, .string ⟨(c).toArray⟩, .bool ng, .slice ra rn rc, .int .i64 lo, .int .i64 hi, .bool lz, .slice ka 1 kc] 25) := ⟨_, rfl⟩
    have hb0 : Below w.heap.size w w0 := by rw [hw0]; exact (Below.refl _ _).alloc (Nat.le_refl _) _
    have hbx0 : w0.heap[w.heap.size]? = some (.cells #[.int .i64 6, .string ⟨(c).toArray⟩, .bool ng, .slice ra rn rc, .int .i64 lo, .int .i64 hi, .bool lz, .slice ka 1 kc] 25 (0, 0)) := by rw [hw0]; exact heap_alloc_new w _
    have HX := Lib.hid (hx.keep (Kept.all hb0))
    have hbl0 : Bld B g acc w0 := by rw [hw0]; exact hbl.alloc _
    have htb := ht.keep hb0
    have hB0 : B ≤ w0.heap.size := Nat.le_trans hB hb0.size
    have hf0 : Fr B [g] [5] w w0 := Fr.of_below hb0 (Nat.le_refl _)
    have hBX0 := Lib.hid hbx0
    have HTB := Lib.hid htb
    have HW0 := Lib.hid hw0
    clear hx ht htb hbl0 hw0
    obtain ⟨b, o, ya, yrc, yka, ykc, rfl, hS, hbB, _, _, hyv, c0, c1, c2, c3, c4, c5, c6, c7⟩ := HX.out.cells (m := 0) rfl
    have HYV := Lib.hid hyv
    unfold rxc at HYV
    simp only [Nat.zero_mul, Nat.add_zero] at c0 c1 c2 c3 c4 c5 c6 c7
    have C := Lib.hid (And.intro c0 (And.intro c1 (And.intro c2 (And.intro c3 (And.intro c4 (And.intro c5 (And.intro c6 c7)))))))
    clear c0 c1 c2 c3 c4 c5 c6 c7 hyv
    go_enter Tryd.func22, Tryd.ntmps22
    go_wp2_with (go_at_call 36; refine (WriteByte_any B _ (acc) 40 _ (hbl.alloc _) (by first | omega | (simp; done) | (simp; omega)) (by first | omega | (simp; done) | (simp; omega)) (by decide) (by decide)).mono ?_)
    first | rintro e w1 rfl hbl1 hfr1 | rintro e w1 ⟨rfl, hbl1, hfr1⟩
    rw [← HW0.out] at hfr1
    have hbx1 := hfr1.held hbx0 (by decide) (Nat.ne_of_gt hgl)
    have z0 : w1.cell? ⟨w.heap.size, 0, none⟩ = some (.int .i64 6) := (by rw [Lib.cell_of_heap hbx1]; rfl)
    have hB1 : B ≤ w1.heap.size := Nat.le_trans hB0 hfr1.size
    have hfx := hf0.trans hfr1
    have HBX1 := Lib.hid hbx1
    have HFA := Lib.hid hfr1
    clear hbx1 hfr1 hbx0
    go_wp2_with (go_at_call 37; refine (WriteString_any B _ (acc ++ [40]) _ _ (hbl1) (by first | omega | (simp; done) | (simp; omega)) (by first | omega | (simp; done) | (simp; omega)) (by first | omega | (simp; done) | (simp; omega))).mono ?_)
    first | rintro e w1b rfl hbl1b hfr1b | rintro e w1b ⟨rfl, hbl1b, hfr1b⟩
    have hbx1b := hfr1b.held HBX1.out (by decide) (Nat.ne_of_gt hgl)
    have z7 : w1b.cell? ⟨w.heap.size, 7, none⟩ = some (.slice (some ⟨b, o, none⟩) 1 kc) := (by rw [Lib.cell_of_heap hbx1b]; rfl)
    have hB1b : B ≤ w1b.heap.size := Nat.le_trans hB1 hfr1b.size
    have hfrA := HFA.out.trans hfr1b
    have hbw1 := hfrA.below hB0 (by simpa using hgB)
    have kb : b < B := hS
    have kc0 : ∀ j u, w0.cell? ⟨b, o + j, none⟩ = some u → w1b.cell? ⟨b, o + j, none⟩ = some u := fun j u h => ((hbw1).cell (p := ⟨b, o + j, none⟩) kb).trans h
    have d0 : w1b.cell? ⟨b, o, none⟩ = some (.int .i64 yk) := kc0 0 _ C.out.1
    have d1 := kc0 1 _ C.out.2.1
    have d2 := kc0 2 _ C.out.2.2.1
    have d3 := kc0 3 _ C.out.2.2.2.1
    have d4 := kc0 4 _ C.out.2.2.2.2.1
    have d5 := kc0 5 _ C.out.2.2.2.2.2.1
    have d6 := kc0 6 _ C.out.2.2.2.2.2.2.1
    have d7 := kc0 7 _ C.out.2.2.2.2.2.2.2
    clear kc0
    have HYV1 := Lib.hid (HYV.out.keep (Kept.fr hfrA hB0 hgB))
    have HTB1 := Lib.hid (HTB.out.keepB hgT hbw1)
    have hfxb := hfx.trans hfr1b
    clear hbx1b hfr1b hfrA
    go_wp2_with (go_at_call 22; refine (IH.out.at_ HYV1.out hbl1b hB1b HTB1.out rfl (by simp only [List.length_append, List.length_cons, List.length_nil]; omega)).mono ?_)
    first | rintro e w2 rfl hbl2 hfr2 | rintro e w2 ⟨rfl, hbl2, hfr2⟩
    have hB2 : B ≤ w2.heap.size := Nat.le_trans hB1b hfr2.size
    go_wp2_with (go_at_call 36; refine (WriteByte_any B _ (acc ++ [40] ++ [63, 58] ++ Rx.tell (.mk yk yc yn yr yl yh yz ys)) 41 _ (hbl2) (by first | omega | (simp; done) | (simp; omega)) (by first | omega | (simp; done) | (simp; omega)) (by decide) (by decide)).mono ?_)
    first | rintro e w3 rfl hbl3 hfr3 | rintro e w3 ⟨rfl, hbl3, hfr3⟩
    go_wp2_with fail
    go_end0
    exact ⟨rfl, hbl3, (hfxb.trans hfr2).trans hfr3⟩
theorem often_eq {lo hi : Int} (w : World) (h0 : 0 ≤ lo) (h1 : lo ≤ 255) (h2 : hi = -1 ∨ lo ≤ hi ∧ hi ≤ 255) (ht : Tab w) :
    Calls Tryd.prog 40 #[.int .i64 lo, .int .i64 hi] w fun e w' => e = .returned (.string ⟨(oftS lo hi).toArray⟩) ∧ Below w.heap.size w w' := often_any lo hi w h0 h1 h2 ht
set_option maxHeartbeats 4000000 in
theorem show_rep (B g : Nat) (acc : Str) (c : Str) (ng : Bool) (ra : Option Addr) (rs : List (Str × Str)) (rn rc : Nat) (lo hi : Int) (lz : Bool) (ka : Option Addr) (y : Rx) (kc : Nat) (w : World)
    (ih : ShowC B g y) (hgT : 1 < B) (h0 : 0 ≤ lo) (h1 : lo ≤ 255) (h2 : hi = -1 ∨ lo ≤ hi ∧ hi ≤ 255)
    (hbl : Bld B g acc w) (hB : B ≤ w.heap.size) (ht : Tab w) (hx : RxSl w (· < B) ka 1 [y])
    (hlen : (acc ++ (Rx.mk 7 c ng rs lo hi lz [y]).tell).length ≤ 10000000) :
    Calls Tryd.prog 22 #[.pointer (some ⟨g, 0, none⟩), .agg #[.int .i64 7, .string ⟨(c).toArray⟩, .bool ng, .slice ra rn rc, .int .i64 lo, .int .i64 hi, .bool lz, .slice ka 1 kc]] w fun e w' => ShwPost B g (acc ++ (Rx.mk 7 c ng rs lo hi lz [y]).tell) w e w' := by
  have IH := Lib.hid ih
  have H2 := Lib.hid h2
  have HO : Hid (acc ++ (Rx.mk 7 c ng rs lo hi lz [y]).tell = acc ++ y.tell ++ oftS lo hi ++ (if lz = true then [63] else [])) := Lib.hid (by simp [Rx.tell, Rx.tellL])
  rw [HO.out] at hlen ⊢
  have hl3 : acc.length + y.tell.length + (oftS lo hi).length ≤ 10000000 := by simp only [List.length_append] at hlen; omega
  clear ih h2 hlen
  obtain ⟨yk, yc, yn, yr, yl, yh, yz, ys⟩ := y
  have hgl := hbl.lt
  have hgB := hbl.le
  obtain ⟨w0, hw0⟩ : ∃ w0, w0 = w.alloc (.cells #[.int .i64 7, .string ⟨(c).toArray⟩, .bool ng, .slice ra rn rc, .int .i64 lo, .int .i64 hi, .bool lz, .slice ka 1 kc] 25) := ⟨_, rfl⟩
  have hb0 : Below w.heap.size w w0 := by rw [hw0]; exact (Below.refl _ _).alloc (Nat.le_refl _) _
  have hbx0 : w0.heap[w.heap.size]? = some (.cells #[.int .i64 7, .string ⟨(c).toArray⟩, .bool ng, .slice ra rn rc, .int .i64 lo, .int .i64 hi, .bool lz, .slice ka 1 kc] 25 (0, 0)) := by rw [hw0]; exact heap_alloc_new w _
  obtain ⟨b, o, ya, yrc, yka, ykc, rfl, hS, hbB, _, _, hyv, c0, c1, c2, c3, c4, c5, c6, c7⟩ := hx.cells (m := 0) rfl
  simp only [Nat.zero_mul, Nat.add_zero] at c0 c1 c2 c3 c4 c5 c6 c7
  have HYV := Lib.hid (hyv.later hb0)
  unfold rxc at HYV
  have HTB := Lib.hid (ht.keep hb0)
  have hB0 : B ≤ w0.heap.size := Nat.le_trans hB hb0.size
  have hf0 : Fr B [g] [5] w w0 := Fr.of_below hb0 (Nat.le_refl _)
  have HBX0 := Lib.hid hbx0
  have HBL0 : Hid (Bld B g acc w0) := Lib.hid (by rw [hw0]; exact hbl.alloc _)
  rw [hw0] at HYV HTB HBL0
  have HW0 := Lib.hid hw0
  clear hx ht hw0 hyv hbx0
  go_enter Tryd.func22, Tryd.ntmps22
  go_wp2_with (go_at_call 22; refine (IH.out.at_ HYV.out HBL0.out (by simp; omega) HTB.out rfl (by simp only [List.length_append]; omega)).mono ?_)
  first | rintro e w1 rfl hbl1 hfr1 | rintro e w1 ⟨rfl, hbl1, hfr1⟩
  rw [← HW0.out] at hfr1
  have hbx1 := hfr1.held HBX0.out (by decide) (Nat.ne_of_gt hgl)
  have z4 : w1.cell? ⟨w.heap.size, 4, none⟩ = some (.int .i64 lo) := (by rw [Lib.cell_of_heap hbx1]; rfl); have z5 : w1.cell? ⟨w.heap.size, 5, none⟩ = some (.int .i64 hi) := (by rw [Lib.cell_of_heap hbx1]; rfl)
  have hB1 : B ≤ w1.heap.size := Nat.le_trans hB0 hfr1.size
  have hbw1 := hfr1.below hB0 (by simpa using hgB)
  have HTB1 := Lib.hid ((show Tab w0 by rw [HW0.out]; exact HTB.out).keepB hgT hbw1)
  have hfx := hf0.trans hfr1
  have HBX1 := Lib.hid hbx1
  have hgl1 := hbl1.lt
  clear hbx1 hfr1
  go_wp2_with (go_at_call 40; refine (often_eq _ h0 h1 H2.out HTB1.out).mono ?_)
  first | rintro e w2 rfl hb2 | rintro e w2 ⟨rfl, hb2⟩
  have hbl2 := hbl1.below hb2
  have hB2 : B ≤ w2.heap.size := Nat.le_trans hB1 hb2.size
  have hfx2 : Fr B [g] [5] w w2 := hfx.trans (Fr.of_below hb2 (Nat.le_refl _))
  have HBX2 : Hid (w2.heap[w.heap.size]? = some (.cells #[.int .i64 7, .string ⟨(c).toArray⟩, .bool ng, .slice ra rn rc, .int .i64 lo, .int .i64 hi, .bool lz, .slice (some ⟨b, o, none⟩) 1 kc] 25 (0, 0))) := Lib.hid ((hb2.block _ (heap_lt HBX1.out)).trans HBX1.out)
  clear hb2
  go_wp2_with (go_at_call 37; refine (WriteString_any B _ (acc ++ Rx.tell (.mk yk yc yn yr yl yh yz ys)) _ _ (hbl2) (by first | omega | (simp; done) | (simp; omega)) (by first | omega | (simp; done) | (simp; omega)) (by first | omega | (simp; done) | (simp; omega))).mono ?_)
  first | rintro e w3 rfl hbl3 hfr3 | rintro e w3 ⟨rfl, hbl3, hfr3⟩
  have hbx3 := hfr3.held HBX2.out (by decide) (Nat.ne_of_gt hgl)
  have z6 : w3.cell? ⟨w.heap.size, 6, none⟩ = some (.bool lz) := (by rw [Lib.cell_of_heap hbx3]; rfl)
  have hB3 : B ≤ w3.heap.size := Nat.le_trans hB2 hfr3.size
  have hfx3 := hfx2.trans hfr3
  clear hbx3 hfr3
  cases lz with
  | false =>
    go_wp2
    go_end0
    exact ⟨rfl, by simpa using hbl3, hfx3⟩
  | true =>
    go_wp2_with (go_at_call 36; refine (WriteByte_any B _ (acc ++ Rx.tell (.mk yk yc yn yr yl yh yz ys) ++ oftS lo hi) 63 _ (hbl3) (by first | omega | (simp; done) | (simp; omega)) (by first | omega | (simp; done) | (simp; omega)) (by decide) (by decide)).mono ?_)
    first | rintro e w4 rfl hbl4 hfr4 | rintro e w4 ⟨rfl, hbl4, hfr4⟩
    go_wp2_with fail
    go_end0
    exact ⟨rfl, by simpa using hbl4, hfx3.trans hfr4⟩
theorem len1 {α : Type} {l : List α} (h : l.length = 1) : ∃ a, l = [a] := by
  match l, h with
  | [a], _ => exact ⟨a, rfl⟩
theorem show_any (B g : Nat) (hgT : 1 < B) : ∀ (N : Nat) (x : Rx), x.parts ≤ N → x.small → x.wf = true → ShowC B g x
  | 0, x, h, _, _ => by have := Rx.parts_pos x; omega
  | N + 1, .mk k c ng rs lo hi lz ks, h, hsm, hwf => by
    intro cc acc w hv hbl hB ht hlen
    obtain ⟨ra, rc, ka, kc, rfl, hrs, hx⟩ := hv.open_
    obtain ⟨⟨s1, s2, s3, s4⟩, hsmL⟩ := hsm
    obtain ⟨hf, hwl⟩ := wf_mk hwf
    simp only [Rx.parts] at h
    have ih : ∀ y ∈ ks, ShowC B g y := fun y hy => show_any B g hgT N y (by have := Rx.parts_mem hy; omega) (smallL_mem hsmL hy) (wfL_mem hwl hy)
    have hrB : Sl w B ra 2 rs.length (rcells rs) := ⟨hrs.1, fun hn => by
      obtain ⟨b, o, e1, e2, _, e4⟩ := hrs.2 hn
      exact ⟨b, o, e1, e2, e4⟩⟩
    have hal : acc.length ≤ 10000000 := by simp only [List.length_append] at hlen; omega
    unfold rxc
    rcases kind_le hf with rfl | rfl | rfl | rfl | rfl | rfl | rfl | rfl | rfl | rfl | rfl | rfl
    · exact show_seq B g acc c ng ra rs _ rc lo hi lz ka ks kc w ih hgT hbl hB ht hx s4 (by simpa [Rx.tell, tlF] using hlen)
    · exact show_alt B g acc c ng ra rs _ rc lo hi lz ka ks kc w ih hgT hbl hB ht hx s4 (by simpa [Rx.tell, taF] using hlen)
    · have hp : properB c = true := by simp [fieldsB] at hf; exact hf.2
      exact show_char B g acc c ng ra rs _ rc lo hi lz ka ks _ kc w hbl hB hal (proper_ne hp) s1
    · exact show_const B g acc 3 (by simp) c ng ra rs _ rc lo hi lz ka ks _ kc w hbl hB hal
    · have hp : rowsB rs = true := by simp [fieldsB] at hf; exact hf.2
      exact show_set B g acc c ng ra rs rc lo hi lz ka ks _ kc w hbl hB hrB (rows_ne hp) s3 s2 (by simpa [Rx.tell] using hlen)
    · have h1 : ks.length = 1 := by simp [fieldsB] at hf; exact hf.2
      obtain ⟨y, rfl⟩ := len1 h1
      exact show_group B g acc 5 (.inl rfl) c ng ra rs _ rc lo hi lz ka y kc w (ih y (by simp)) hgT hbl hB ht hx hlen
    · have h1 : ks.length = 1 := by simp [fieldsB] at hf; exact hf.2
      obtain ⟨y, rfl⟩ := len1 h1
      exact show_group B g acc 6 (.inr rfl) c ng ra rs _ rc lo hi lz ka y kc w (ih y (by simp)) hgT hbl hB ht hx hlen
    · simp only [fieldsB] at hf
      rw [if_neg (by decide), if_neg (by decide), if_pos trivial] at hf
      simp only [Bool.and_eq_true, decide_eq_true_eq] at hf
      obtain ⟨⟨_, h1⟩, h2, h3, h4⟩ := hf
      match ks, h1 with
      | [y], _ => exact show_rep B g acc c ng ra rs _ rc lo hi lz ka y kc w (ih y (by simp)) hgT h2 h3 h4 hbl hB ht hx hlen
    · exact show_const B g acc 8 (by simp) c ng ra rs _ rc lo hi lz ka ks _ kc w hbl hB hal
    · exact show_const B g acc 9 (by simp) c ng ra rs _ rc lo hi lz ka ks _ kc w hbl hB hal
    · exact show_const B g acc 10 (by simp) c ng ra rs _ rc lo hi lz ka ks _ kc w hbl hB hal
    · exact show_const B g acc 11 (by simp) c ng ra rs _ rc lo hi lz ka ks _ kc w hbl hB hal
end Go.Proofs.YtpggnfpjjppbmaaDoor
set_option maxRecDepth 100000
namespace Go.Proofs.YtpggnfpjjppbmaaDoor
open Go.RowKit
set_option maxHeartbeats 1000000 in
theorem Show_yes (S : Nat → Prop) (x : Rx) (cc : List Value) (w : World) (hm : x.parts ≤ 1000000) (hsm : x.small) (hv : RxV w S cc x) (ht : Tab w) (hmay : mayB x = true) (hlen : x.tell.length ≤ 10000000) :
    Calls Tryd.prog 11 #[.agg cc.toArray] w fun e w' => e = .returned (.tuple #[.string ⟨(x.tell).toArray⟩, .int .i64 0]) ∧ Below w.heap.size w w' := by
  have hwf : x.wf = true := by
    have h := hmay; simp only [mayB, okB, Bool.and_eq_true] at h; exact h.1.1
  obtain ⟨k, c, ng, rs, lo, hi, lz, ks⟩ := x
  obtain ⟨ra, rc, ka, kc, rfl, hrs, hx⟩ := hv.open_
  obtain ⟨w0, hw0⟩ : ∃ w0, w0 = w.alloc (.cells #[.int .i64 k, .string ⟨(c).toArray⟩, .bool ng, .slice ra rs.length rc, .int .i64 lo, .int .i64 hi, .bool lz, .slice ka ks.length kc] 25) := ⟨_, rfl⟩
  have hb0 : Below w.heap.size w w0 := by rw [hw0]; exact (Below.refl _ _).alloc (Nat.le_refl _) _
  have hbx0 : w0.heap[w.heap.size]? = some (.cells #[.int .i64 k, .string ⟨(c).toArray⟩, .bool ng, .slice ra rs.length rc, .int .i64 lo, .int .i64 hi, .bool lz, .slice ka ks.length kc] 25 (0, 0)) := by rw [hw0]; exact heap_alloc_new w _
  have HV0 := Lib.hid (hv.later hb0).any
  have HTB := Lib.hid (ht.keep hb0)
  have HSM := Lib.hid hsm
  have HMAY := Lib.hid hmay
  have HWF := Lib.hid hwf
  have HBX0 := Lib.hid hbx0
  have HLEN := Lib.hid hlen
  have HM := Lib.hid hm
  rw [hw0] at HV0
  have HW0 := Lib.hid hw0
  clear hv hrs hx hsm hmay hwf ht hbx0 hw0 hlen hm
  unfold rxc at HV0 ⊢
  go_enter Tryd.func11, Tryd.ntmps11
  go_wp2_with (go_at_call 13; refine (RxMay_any Any _ _ _ HM.out HSM.out HV0.out).mono ?_)
  first | rintro e w1 rfl hb1 | rintro e w1 ⟨rfl, hb1⟩
  rw [HMAY.out]
  have hb1' : Below w0.heap.size w0 w1 := by rw [HW0.out]; exact hb1.mono (by simp)
  have HV1 := Lib.hid ((show RxV w0 Any _ _ by rw [HW0.out]; exact HV0.out).later hb1')
  have HTB1 := Lib.hid (HTB.out.keep hb1')
  have hbx1 := (hb1'.block _ (heap_lt HBX0.out)).trans HBX0.out
  have hbw1 : Below w.heap.size w w1 := hb0.trans (hb1'.mono hb0.size)
  have hz1 := hbw1.size
  have hl1 := heap_lt hbx1
  have e0 : w1.cell? ⟨w.heap.size, 0, none⟩ = some (.int .i64 k) := by rw [Lib.cell_of_heap hbx1]; rfl
  have e1 : w1.cell? ⟨w.heap.size, 1, none⟩ = some (.string ⟨(c).toArray⟩) := by rw [Lib.cell_of_heap hbx1]; rfl
  have e2 : w1.cell? ⟨w.heap.size, 2, none⟩ = some (.bool ng) := by rw [Lib.cell_of_heap hbx1]; rfl
  have e3 : w1.cell? ⟨w.heap.size, 3, none⟩ = some (.slice ra rs.length rc) := by rw [Lib.cell_of_heap hbx1]; rfl
  have e4 : w1.cell? ⟨w.heap.size, 4, none⟩ = some (.int .i64 lo) := by rw [Lib.cell_of_heap hbx1]; rfl
  have e5 : w1.cell? ⟨w.heap.size, 5, none⟩ = some (.int .i64 hi) := by rw [Lib.cell_of_heap hbx1]; rfl
  have e6 : w1.cell? ⟨w.heap.size, 6, none⟩ = some (.bool lz) := by rw [Lib.cell_of_heap hbx1]; rfl
  have e7 : w1.cell? ⟨w.heap.size, 7, none⟩ = some (.slice ka ks.length kc) := by rw [Lib.cell_of_heap hbx1]; rfl
  have HV2 := Lib.hid ((HV1.out.mono (S' := (· < w1.heap.size)) (fun _ _ h => h)).later ((Below.refl _ _).alloc (Nat.le_refl _) (.cells #[.pointer none, .slice none 0 0] 46)))
  have HTB2 := Lib.hid (HTB1.out.keep ((Below.refl _ _).alloc (Nat.le_refl _) (.cells #[.pointer none, .slice none 0 0] 46)))
  have hgT := HTB1.out.lt
  clear hb1 hbx1
  go_wp2_with (go_at_call 22; refine ((show_any w1.heap.size w1.heap.size hgT _ _ (Nat.le_refl _) HSM.out HWF.out).at_ (acc := []) HV2.out (Bld.fresh _ _ (Nat.le_refl _)) (by simp) HTB2.out (List.nil_append _) HLEN.out).mono ?_)
  first | rintro e w2 rfl hbl2 hfr2 | rintro e w2 ⟨rfl, hbl2, hfr2⟩
  have hB2 : w1.heap.size ≤ w2.heap.size := by have := hfr2.size; simp at this; omega
  have hbw2 : Below w1.heap.size w1 w2 := ((Below.refl _ _).alloc (Nat.le_refl _) _).trans (hfr2.below (by simp) (by simp))
  go_wp2_with (go_at_call 23; refine (String_any _ _ _ _ hbl2 hB2).mono ?_; rintro e w3 ⟨rfl, hb3⟩)
  go_ret2
  exact ⟨rfl, hbw1.trans ((hbw2.trans hb3).mono hz1)⟩
set_option maxHeartbeats 1000000 in
theorem Show_no (S : Nat → Prop) (x : Rx) (cc : List Value) (w : World) (hm : x.parts ≤ 1000000) (hsm : x.small) (hv : RxV w S cc x) (hmay : mayB x = false) :
    Calls Tryd.prog 11 #[.agg cc.toArray] w fun e w' => e = .returned (.tuple #[.string ⟨([]).toArray⟩, .int .i64 10]) ∧ Below w.heap.size w w' := by
  obtain ⟨k, c, ng, rs, lo, hi, lz, ks⟩ := x
  obtain ⟨ra, rc, ka, kc, rfl, hrs, hx⟩ := hv.open_
  have HV0 := Lib.hid (hv.later ((Below.refl w.heap.size w).alloc (Nat.le_refl _) (.cells #[.int .i64 k, .string ⟨(c).toArray⟩, .bool ng, .slice ra rs.length rc, .int .i64 lo, .int .i64 hi, .bool lz, .slice ka ks.length kc] 25)))
  have HSM := Lib.hid hsm
  have HMAY := Lib.hid hmay
  have HM := Lib.hid hm
  clear hv hrs hx hsm hmay hm
  unfold rxc at HV0 ⊢
  go_enter Tryd.func11, Tryd.ntmps11
  go_wp2_with (go_at_call 13; refine (RxMay_any S _ _ _ HM.out HSM.out HV0.out).mono ?_; rintro e w1 ⟨rfl, hb1⟩; rw [HMAY.out])
  go_ret2
  exact ⟨rfl, ((Below.refl _ _).alloc (Nat.le_refl _) _).trans (hb1.mono (by simp))⟩
end Go.Proofs.YtpggnfpjjppbmaaDoor
set_option maxRecDepth 100000
namespace Go.Proofs.YtpggnfpjjppbmaaDoor
open Go.RowKit
def leftR : List (Str × Str) → Int → Option Int
  | [], n => some n
  | r :: rs, n => if n ≤ r.1.length ∨ n ≤ r.2.length then none else leftR rs (n - 1 - r.1.length - r.2.length)
namespace Rx
mutual
def left : Rx → Int → Int
  | mk _ c _ rs _ _ _ ks, n => if n ≤ c.length ∨ n ≤ rs.length ∨ n ≤ ks.length then -1 else
    (match leftR rs (n - 1 - c.length) with
     | none => -1
     | some m => leftK ks m)
def leftK : List Rx → Int → Int
  | [], n => n
  | x :: r, n => if n < 0 then n else leftK r (left x n)
end
def finK (ks : List Rx) : Option Int → Int
  | none => -1
  | some m => leftK ks m
/-- All that a tree has is of a size that memory bears. -/
def mem1 : Rx → Prop
  | mk _ c _ rs _ _ _ ks => c.length ≤ maxLen ∧ rs.length ≤ maxLen ∧ (∀ r ∈ rs, r.1.length ≤ maxLen ∧ r.2.length ≤ maxLen) ∧ ks.length ≤ maxLen
mutual
def mem : Rx → Prop
  | mk k c ng rs lo hi lz ks => mem1 (mk k c ng rs lo hi lz ks) ∧ memL ks
def memL : List Rx → Prop
  | [] => True
  | x :: r => mem x ∧ memL r
end
end Rx
theorem memL_mem : ∀ {ks : List Rx} {x : Rx}, Rx.memL ks → x ∈ ks → x.mem
  | [], _, _, h => by simp at h
  | y :: r, x, hs, h => by
    simp only [Rx.memL] at hs
    rcases List.mem_cons.1 h with rfl | h
    · exact hs.1
    · exact memL_mem hs.2 h
theorem leftR_le : ∀ (rs : List (Str × Str)) (n m : Int), leftR rs n = some m → m ≤ n ∧ (-1000 ≤ n → n ≤ 1000 → -1000 ≤ m)
  | [], n, m, h => by simp only [leftR] at h; injection h with h; subst h; omega
  | r :: rs, n, m, h => by
    simp only [leftR] at h
    split at h
    · cases h
    · rename_i hc
      have := leftR_le rs _ m h
      refine ⟨by omega, fun a b => ?_⟩
      by_cases hn : -1000 ≤ n - 1 - r.1.length - r.2.length
      · exact this.2 hn (by omega)
      · exfalso; omega
theorem left_bd : ∀ (N : Nat) (x : Rx) (n : Int), x.parts ≤ N → -1000 ≤ n → n ≤ 1000 → -1000 ≤ x.left n ∧ x.left n ≤ 1000
  | 0, x, _, h, _, _ => by have := Rx.parts_pos x; omega
  | N + 1, .mk k c ng rs lo hi lz ks, n, h, h0, h1 => by
    simp only [Rx.parts] at h
    have hk : ∀ (l : List Rx) (m : Int), Rx.partsL l ≤ N → -1000 ≤ m → m ≤ 1000 → -1000 ≤ Rx.leftK l m ∧ Rx.leftK l m ≤ 1000 := by
      intro l
      induction l with
      | nil => intro m _ a b; simp only [Rx.leftK]; exact ⟨a, b⟩
      | cons x r ih =>
        intro m hm a b
        simp only [Rx.partsL] at hm
        simp only [Rx.leftK]
        split
        · exact ⟨a, b⟩
        · have := left_bd N x m (by omega) a b
          exact ih _ (by omega) this.1 this.2
    simp only [Rx.left]
    split
    · omega
    · rename_i hc
      split
      · omega
      · rename_i m hm
        have h2 := leftR_le rs _ m hm
        exact hk ks m (by omega) (h2.2 (by omega) (by omega)) (by omega)
def LrRel (rs : List (Str × Str)) (R : Option Int) (w : World) (s q : Value) (wr : World) : Prop :=
  ∃ (k : Nat) (m : Int), k ≤ rs.length ∧ q = .int .i64 k ∧ s = .int .i64 m ∧ -1000 ≤ m ∧ m ≤ 1000 ∧ Below w.heap.size w wr ∧ Hid (leftR (rs.drop k) m = R)
def LkRel (ks : List Rx) (R : Int) (w : World) (s q : Value) (wr : World) : Prop :=
  ∃ (k : Nat) (m : Int), k ≤ ks.length ∧ q = .int .i64 k ∧ s = .int .i64 m ∧ -1000 ≤ m ∧ m ≤ 1000 ∧ Below w.heap.size w wr ∧ Hid (Rx.leftK (ks.drop k) m = R)
set_option maxHeartbeats 4000000 in
theorem LawRx_any (S : Nat → Prop) : ∀ (N : Nat) (x : Rx), x.parts ≤ N → x.mem → ∀ (cc : List Value) (w : World) (n : Int), RxV w S cc x → -1000 ≤ n → n ≤ 1000 →
    Calls Tryd.prog 9 #[.agg cc.toArray, .int .i64 n] w fun e w' => e = .returned (.int .i64 (x.left n)) ∧ Below w.heap.size w w'
  | 0, x, h, _, _, _, _, _, _, _ => by have := Rx.parts_pos x; omega
  | N + 1, .mk k c ng rs lo hi lz ks, h, hmem, cc, w, n, hv, hn0, hn1 => by
    obtain ⟨ra, rc, ka, kc, rfl, hrs, hx⟩ := hv.open_
    simp only [Rx.parts] at h
    obtain ⟨⟨m1, m2, m3, m4⟩, hmemL⟩ := hmem
    unfold maxLen at m1 m2 m3 m4
    have ih := fun (y : Rx) (hy : y ∈ ks) => LawRx_any S N y (by have := Rx.parts_mem hy; omega) (memL_mem hmemL hy)
    have ihb := fun (y : Rx) (hy : y ∈ ks) (m : Int) => left_bd N y m (by have := Rx.parts_mem hy; omega)
    have IH := Lib.hid ih
    have IHB := Lib.hid ihb
    have M3 := Lib.hid m3
    obtain ⟨w0, hw0⟩ : ∃ w0, w0 = w.alloc (.cells #[.int .i64 k, .string ⟨(c).toArray⟩, .bool ng, .slice ra rs.length rc, .int .i64 lo, .int .i64 hi, .bool lz, .slice ka ks.length kc] 25) := ⟨_, rfl⟩
    have hb0 : Below w.heap.size w w0 := by rw [hw0]; exact (Below.refl _ _).alloc (Nat.le_refl _) _
    have HX := Lib.hid (hx.later hb0)
    have HRS := Lib.hid (hrs.keep (Kept.all hb0)).sl
    have z3 : w0.cell? ⟨w.heap.size, 3, none⟩ = some (.slice ra rs.length rc) := by rw [hw0]; simp
    have z7 : w0.cell? ⟨w.heap.size, 7, none⟩ = some (.slice ka ks.length kc) := by rw [hw0]; simp
    have Z3 := Lib.hid z3
    have Z7 := Lib.hid z7
    clear hx hv hrs ih ihb hmemL z3 z7 m3
    unfold rxc
    by_cases hout : n ≤ c.length ∨ n ≤ rs.length ∨ n ≤ ks.length
    · have HR : Hid ((Rx.mk k c ng rs lo hi lz ks).left n = -1) := Lib.hid (by simp only [Rx.left]; rw [if_pos hout])
      rw [HR.out]
      clear hw0
      go_enter Tryd.func9, Tryd.ntmps9
      go_wp2
      all_goals first
        | (go_ret; exact ⟨rfl, (Below.refl _ _).alloc (Nat.le_refl _) _⟩)
        | (exfalso; omega)
    · have h1 : (c.length : Int) < n := by omega
      have h2 : (rs.length : Int) < n := by omega
      have h3 : (ks.length : Int) < n := by omega
      obtain ⟨R, hR⟩ : ∃ R, leftR rs (n - 1 - c.length) = R := ⟨_, rfl⟩
      have HR0 : Hid (leftR (rs.drop 0) (n - 1 - c.length) = R) := Lib.hid hR
      have HE : Hid ((Rx.mk k c ng rs lo hi lz ks).left n = Rx.finK ks R) := Lib.hid (by simp only [Rx.left]; rw [if_neg hout, hR]; cases R <;> rfl)
      rw [HE.out]
      have hR1 : ∀ m, R = some m → -1000 ≤ m ∧ m ≤ 1000 := fun m hm => by
        have := leftR_le rs _ m (hR.trans hm); omega
      have HR1 := Lib.hid hR1
      clear hout hR hR1
      go_enter Tryd.func9, Tryd.ntmps9
      go_wp2
      rw [← hw0]
      have HW0 := Lib.hid hw0
      clear hw0
      go_loopw [1, 5] (fun s q wr => LrRel rs R w0 s q wr) (fun _ q _ => rs.length - (intOf q).toNat)
      case atStart => exact ⟨0, n - 1 - c.length, by omega, rfl, rfl, by omega, by omega, Below.refl _ _, HR0⟩
      case round =>
        obtain ⟨i, m, hi, rfl, rfl, hm0, hm1, hb, HF⟩ := hrel
        clear HR0
        have hB := hb.size
        have z3 : wr.cell? ⟨w.heap.size, 3, none⟩ = some (.slice ra rs.length rc) := cell_kept hb _ _ Z3.out
        have hbb := hb0.trans (hb.mono hb0.size)
        cases hd : rs.drop i with
        | nil =>
          have hge : rs.length ≤ i := by simpa using hd
          have hie : i = rs.length := by omega
          have HE2 : Hid (R = some m) := Lib.hid (by rw [← HF.out, hd]; rfl)
          have HX1 := Lib.hid (HX.out.later hb)
          have HK0 : Hid (Rx.leftK (ks.drop 0) m = Rx.leftK ks m) := Lib.hid rfl
          obtain ⟨T, hT⟩ : ∃ T, Rx.leftK ks m = T := ⟨_, rfl⟩
          rw [hT] at HK0
          have HFK : Hid (Rx.finK ks R = T) := Lib.hid (by rw [HE2.out]; exact hT)
          have Z7r := Lib.hid (cell_kept hb _ _ Z7.out)
          clear hd HF hT
          subst hie
          clear hge hi
          obtain ⟨wo, rfl⟩ : ∃ wo : World, wo = wr := ⟨_, rfl⟩
          go_wp2
          go_loopw [1, 6] (fun s q wk => LkRel ks T wo s q wk) (fun _ q _ => ks.length - (intOf q).toNat)
          case atStart => exact ⟨0, m, by omega, rfl, rfl, hm0, hm1, Below.refl _ _, HK0⟩
          case round =>
            obtain ⟨j, m', hj, rfl, rfl, hk0, hk1, hbk, HG⟩ := hrel
            clear HK0
            have hBk := hbk.size
            have z7 : wr.cell? ⟨w.heap.size, 7, none⟩ = some (.slice ka ks.length kc) := cell_kept hbk _ _ Z7r.out
            have hbbk := hbb.trans (hbk.mono hbb.size)
            cases hd : ks.drop j with
            | nil =>
              have hge2 : ks.length ≤ j := by simpa using hd
              have HT : Hid (m' = T) := Lib.hid (by rw [← HG.out, hd]; rfl)
              clear hd HG
              go_wp2
              go_ret
              exact ⟨ret_int (by rw [HFK.out]; exact HT.out), hbbk⟩
            | cons y r =>
              obtain ⟨g2, g3, hr⟩ := ldrop_cons hd
              have hym := List.mem_of_getElem? g3
              obtain ⟨yk, yc, yn, yr, yl, yh, yz, ys⟩ := y
              obtain ⟨b, o, ya, yrc, yka, ykc, rfl, hS, hbB, _, _, hyv, c0, c1, c2, c3, c4, c5, c6, c7⟩ := (HX1.out.later hbk).cells g3
              have Hr := Lib.hid hr
              have HG2 : Hid (Rx.leftK (.mk yk yc yn yr yl yh yz ys :: r) m' = T) := Lib.hid (by rw [← HG.out, hd])
              have HYV := Lib.hid hyv
              unfold rxc at HYV
              clear hd HG hr g3 hyv
              by_cases hneg : m' < 0
              · have HT : Hid (m' = T) := Lib.hid (by rw [← HG2.out]; simp only [Rx.leftK]; rw [if_pos hneg])
                go_wp2
                go_ret
                exact ⟨ret_int (by rw [HFK.out]; exact HT.out), hbbk⟩
              · have HT : Hid (Rx.leftK r ((Rx.mk yk yc yn yr yl yh yz ys).left m') = T) := Lib.hid (by rw [← HG2.out]; simp only [Rx.leftK]; rw [if_neg hneg])
                have hpos : 0 ≤ m' := by omega
                obtain ⟨b1, b2⟩ := IHB.out _ hym m' hk0 hk1
                clear hneg
                go_wp2_with (go_at_call 9; refine (IH.out _ hym _ _ m' HYV.out hk0 hk1).mono ?_)
                first | rintro e w2 rfl hb2 | rintro e w2 ⟨rfl, hb2⟩
                go_wp2
                go_roundw
                case rel => exact ⟨j + 1, _, by omega, by go_num, rfl, b1, b2, hbk.trans (hb2.mono hBk), Lib.hid (by rw [Hr.out]; exact HT.out)⟩
                case measure => simp [intOf]; omega
        | cons r0 r =>
          obtain ⟨g2, g3, hr⟩ := ldrop_cons hd
          obtain ⟨b, o, rfl, hbB, c0, c1⟩ := (HRS.out.keep (hb.mono (Nat.le_refl _))).row g3
          obtain ⟨l1, l2⟩ := M3.out r0 (List.mem_of_getElem? g3)
          obtain ⟨f, t⟩ := r0
          replace l1 : f.length ≤ 2 ^ 63 - 1 := l1
          replace l2 : t.length ≤ 2 ^ 63 - 1 := l2
          replace c0 : wr.cell? ⟨b, o + i * 2, none⟩ = some (.string ⟨(f).toArray⟩) := c0
          replace c1 : wr.cell? ⟨b, o + i * 2 + 1, none⟩ = some (.string ⟨(t).toArray⟩) := c1
          have Hr := Lib.hid hr
          have HF2 : Hid (leftR ((f, t) :: r) m = R) := Lib.hid (by rw [← HF.out, hd])
          clear hd HF hr g3
          by_cases hc : m ≤ f.length ∨ m ≤ t.length
          · have HRN : Hid (R = none) := Lib.hid (by rw [← HF2.out]; simp only [leftR]; rw [if_pos hc])
            go_wp2
            all_goals first
              | (go_ret; exact ⟨ret_int (by rw [HRN.out]; rfl), hbb⟩)
              | (exfalso; omega)
          · have HRN : Hid (leftR r (m - 1 - f.length - t.length) = R) := Lib.hid (by rw [← HF2.out]; simp only [leftR]; rw [if_neg hc])
            have hcf : (f.length : Int) < m := by omega
            have hct : (t.length : Int) < m := by omega
            have x3 : ∀ x : ExtOf wr, x.val.cell? ⟨w.heap.size, 3, none⟩ = some (.slice (some ⟨b, o, none⟩) rs.length rc) := ExtOf.cell z3
            have x0 : ∀ x : ExtOf wr, x.val.cell? ⟨b, o + i * 2, none⟩ = some (.string ⟨(f).toArray⟩) := ExtOf.cell c0
            have x1 : ∀ x : ExtOf wr, x.val.cell? ⟨b, o + i * 2 + 1, none⟩ = some (.string ⟨(t).toArray⟩) := ExtOf.cell c1
            clear hc
            go_wp2
            refine wp_region_ext (by kernel_rfl) (by kernel_rfl) ?_
            repeat (go_big_quiet_step ((fail)))
            refine wpQuiet_nil ?_
            rintro _ ⟨xq, rfl⟩
            go_wp2
            go_roundw
            case rel => exact ⟨i + 1, m - 1 - f.length - t.length, by omega, by go_num, by go_num, by omega, by omega, hb.trans (xq.ext.mono hB), Lib.hid (by rw [Hr.out]; exact HRN.out)⟩
            case measure => simp [intOf]; omega
end Go.Proofs.YtpggnfpjjppbmaaDoor
set_option maxRecDepth 100000
namespace Go.Proofs.YtpggnfpjjppbmaaDoor
open Go.ChangeShapes Go.WideShapes Go.RowKit
section
variable {H : Type} {enc : TypeId × Value → H} {P : Program} {w : World} {spare : Nat → Bool} {held : Bool}
theorem flatten_get {C : Nat} : ∀ {css : List (List Value)}, (∀ c ∈ css, c.length = C) → ∀ {j : Nat} {u : Value}, css.flatten[j]? = some u → ∃ i k c, css[i]? = some c ∧ k < C ∧ j = i * C + k ∧ c[k]? = some u
  | [], _, j, u, h => by simp at h
  | c :: css, hC, j, u, h => by
    have hc := hC c (List.mem_cons_self ..)
    rw [List.flatten_cons] at h
    by_cases hj : j < c.length
    · rw [List.getElem?_append_left hj] at h
      exact ⟨0, j, c, rfl, by omega, by omega, h⟩
    · rw [List.getElem?_append_right (by omega)] at h
      obtain ⟨i, k, c', h1, h2, h3, h4⟩ := flatten_get (fun x hx => hC x (List.mem_cons_of_mem _ hx)) h
      exact ⟨i + 1, k, c', by simpa using h1, h2, by rw [Nat.succ_mul]; omega, h4⟩
theorem flatten_len {C : Nat} : ∀ {css : List (List Value)}, (∀ c ∈ css, c.length = C) → css.flatten.length = css.length * C
  | [], _ => by simp
  | c :: css, hC => by
    rw [List.flatten_cons, List.length_append, flatten_len (fun x hx => hC x (List.mem_cons_of_mem _ hx)), hC c (List.mem_cons_self ..), List.length_cons, Nat.succ_mul]; omega
/-- A slice's cells, element by element: what holds of each element's cells (Q), given that they read. -/
theorem slice_cells {t e : TypeId} {C fuel : Nat} {cs : List Value} {x : DataW H × List MemPlace} (ht : P.underlying t = some (.slice e)) (hC : P.cellsOf e = C) (hC0 : 0 < C)
    (h : DataW.trod enc P w 0 spare held fuel t cs = some x) (Q : List Value → Prop)
    (hQ : ∀ n c y, n < fuel → c.length = C → DataW.trod enc P w 0 spare held n e c = some y → Q c) :
    ∃ (a : Option Addr) (len cap : Nat) (css : List (List Value)), cs = [.slice a len cap] ∧ len ≤ maxLen ∧ css.length = len ∧ (∀ c ∈ css, Q c ∧ c.length = C) ∧ Sl w w.heap.size a C len css.flatten := by
  rcases DataW.trod_slice ht h with ⟨rfl, _⟩ | ⟨a, len, cap, elems, rest, n, hf, rfl, _, _, hl, hm, hlen, hel, _, _⟩
  · exact ⟨none, 0, 0, [], rfl, by simp [maxLen], rfl, by simp, Sl.none_ _ _ _ _⟩
  · have each : ∀ i, i < len → ∃ c, c.length = C ∧ Q c ∧ ∀ j, j < C → w.cell? ((a.add (i * C)).add j) = c[j]? := by
      intro i hi
      have h1 := hel i hi
      have hlt : i < elems.length := by omega
      rw [List.getElem?_eq_getElem hlt, Option.bind_eq_some_iff] at h1
      obtain ⟨c, hc, hy⟩ := h1
      obtain ⟨_, h2, h3⟩ := World.cells?_some hc
      rw [hC] at h2 h3
      exact ⟨c, h2, hQ n c _ (by omega) h2 hy, h3⟩
    have all : ∃ css : List (List Value), css.length = len ∧ ∀ i c, css[i]? = some c → c.length = C ∧ Q c ∧ ∀ j, j < C → w.cell? ((a.add (i * C)).add j) = c[j]? := by
      have : ∀ m, m ≤ len → ∃ css : List (List Value), css.length = m ∧ ∀ i c, css[i]? = some c → c.length = C ∧ Q c ∧ ∀ j, j < C → w.cell? ((a.add (i * C)).add j) = c[j]? := by
        intro m
        induction m with
        | zero => intro _; exact ⟨[], rfl, by simp⟩
        | succ m ih =>
          intro hm
          obtain ⟨css, h1, h2⟩ := ih (by omega)
          obtain ⟨c, hc⟩ := each m (by omega)
          refine ⟨css ++ [c], by simp [h1], fun i d hd => ?_⟩
          by_cases hi : i < css.length
          · rw [List.getElem?_append_left hi] at hd; exact h2 i d hd
          · rw [List.getElem?_append_right (by omega)] at hd
            have hi0 : i - css.length = 0 := by
              rcases Nat.eq_zero_or_pos (i - css.length) with h0 | h0
              · exact h0
              · rw [List.getElem?_eq_none (by simp; omega)] at hd; cases hd
            rw [hi0] at hd
            simp at hd; subst hd
            rw [show i = m by omega]; exact hc
      exact this len (Nat.le_refl _)
    obtain ⟨css, h1, h2⟩ := all
    have h3 : ∀ c ∈ css, Q c ∧ c.length = C := fun c hc => by
      obtain ⟨i, hi⟩ := List.getElem?_of_mem hc
      exact ⟨(h2 i c hi).2.1, (h2 i c hi).1⟩
    refine ⟨some a, len, cap, css, rfl, by omega, h1, h3, by rw [flatten_len (fun c hc => (h3 c hc).2), h1], fun hn => ?_⟩
    have h0 : w.cell? a ≠ none := by
      obtain ⟨c, hc⟩ : ∃ c, css[0]? = some c := ⟨_, List.getElem?_eq_getElem (by omega)⟩
      obtain ⟨hc1, _, hc2⟩ := h2 0 c hc
      have := hc2 0 hC0
      rw [show (a.add (0 * C)).add 0 = a by simp [Addr.add], List.getElem?_eq_getElem (by omega)] at this
      rw [this]; simp
    obtain ⟨b, off, spot⟩ := a
    have hspot : spot = none := by
      cases spot with
      | none => rfl
      | some s => exfalso; apply h0; unfold World.cell?; split <;> simp
    subst hspot
    have hb : b < w.heap.size := by
      rcases Nat.lt_or_ge b w.heap.size with h4 | h4
      · exact h4
      · exfalso; apply h0; simp [World.cell?, Array.getElem?_eq_none h4]
    refine ⟨b, off, rfl, hb, fun j u hu => ?_⟩
    obtain ⟨i, k, c, g1, g2, rfl, g4⟩ := flatten_get (fun c hc => (h3 c hc).2) hu
    have := (h2 i c g1).2.2 k g2
    rw [g4] at this
    rw [← this]; congr 1
    unfold Addr.add; (repeat' split) <;> simp_all <;> omega
theorem choose_map {X : Type} (f : X → List Value) (K : X → Prop) : ∀ {css : List (List Value)}, (∀ c ∈ css, ∃ x, c = f x ∧ K x) → ∃ xs : List X, css = xs.map f ∧ ∀ x ∈ xs, K x
  | [], _ => ⟨[], rfl, by simp⟩
  | c :: css, h => by
    obtain ⟨x, rfl, hx⟩ := h c (List.mem_cons_self ..)
    obtain ⟨xs, rfl, hxs⟩ := choose_map f K (fun d hd => h d (List.mem_cons_of_mem _ hd))
    exact ⟨x :: xs, rfl, fun y hy => by
      rcases List.mem_cons.1 hy with rfl | hy
      · exact hx
      · exact hxs y hy⟩
theorem slice_map {X : Type} (f : X → List Value) (K : X → Prop) {t e : TypeId} {C fuel : Nat} {cs : List Value} {x : DataW H × List MemPlace} (ht : P.underlying t = some (.slice e)) (hC : P.cellsOf e = C) (hC0 : 0 < C)
    (h : DataW.trod enc P w 0 spare held fuel t cs = some x)
    (hQ : ∀ n c y, n < fuel → c.length = C → DataW.trod enc P w 0 spare held n e c = some y → ∃ x, c = f x ∧ K x) :
    ∃ (a : Option Addr) (cap : Nat) (xs : List X), cs = [.slice a xs.length cap] ∧ xs.length ≤ maxLen ∧ (∀ x ∈ xs, K x) ∧ Sl w w.heap.size a C xs.length (xs.flatMap f) := by
  obtain ⟨a, len, cap, css, h1, h2, h3, h4, h5⟩ := slice_cells ht hC hC0 h (fun c => ∃ x, c = f x ∧ K x) hQ
  obtain ⟨xs, rfl, hx⟩ := choose_map f K (fun c hc => (h4 c hc).1)
  rw [List.length_map] at h3
  subst h3
  exact ⟨a, cap, xs, h1, h2, hx, by rw [List.flatMap_def]; exact h5⟩
end
theorem cells_slice {a : Option Addr} {n c : Nat} : (Value.slice a n c).cells.toList = [.slice a n c] := rfl
section
variable {H : Type} {enc : TypeId × Value → H} {w : World} {base : Nat} {spare : Nat → Bool} {held : Bool}
theorem open_slice_val {P : Program} {t e : TypeId} (ht : P.underlying t = some (.slice e)) {r : Reach} {b0 : Nat} {v : Value} (hval : Value.okWide P w r b0 t v) : v.cells.toList = [v] := by
  obtain ⟨a, len, cap, rfl⟩ := okWide_slice ht hval
  rfl
theorem open_strs {r : Reach} {b0 : Nat} {v : Value} {d : DataW H} {ps : List MemPlace} (hval : Value.okWide Tryd.prog w r b0 36 v) (h : DataW.Trod enc Tryd.prog w 0 spare held 36 v d ps) :
    ∃ (a : Option Addr) (cap : Nat) (xs : List Str), v = .slice a xs.length cap ∧ xs.length ≤ maxLen ∧ (∀ x ∈ xs, x.length ≤ maxLen) ∧ Sl w w.heap.size a 1 xs.length (scells xs) := by
  obtain ⟨fuel, hf⟩ := h
  rw [open_slice_val Tryd.underlying36 hval] at hf
  obtain ⟨a, cap, xs, h1, h2, h3, h4⟩ := slice_map (fun s : Str => [.string ⟨(s).toArray⟩]) (fun s => s.length ≤ maxLen) Tryd.underlying36 (C := 1) (by kernel_rfl) (by decide) hf (by
    intro n c y _ _ hy
    obtain ⟨s, rfl, _, hs⟩ := DataW.trod_string Tryd.underlying9 hy
    exact ⟨s.data.toList, by simp, by simpa using hs⟩)
  injection h1 with h1
  have hm : ∀ ys : List Str, ys.flatMap (fun s : Str => [.string ⟨(s).toArray⟩]) = scells ys := by
    intro ys
    induction ys with
    | nil => rfl
    | cons y ys ih => rw [List.flatMap_cons, ih]; rfl
  rw [hm] at h4
  exact ⟨a, cap, xs, h1, h2, h3, h4⟩
end
end Go.Proofs.YtpggnfpjjppbmaaDoor
set_option maxRecDepth 100000
namespace Go.Proofs.YtpggnfpjjppbmaaDoor
open Go.ChangeShapes Go.WideShapes Go.RowKit
theorem rx_fields : Tryd.prog.underlying 25 = some (.struct (Tryd.prog.fieldsOf 25)) := by kernel_rfl
theorem row_fields : Tryd.prog.underlying 42 = some (.struct (Tryd.prog.fieldsOf 42)) := by kernel_rfl
theorem rx_fs : Tryd.prog.fieldsOf 25 = #[{ name := "Kind", type := 3, offset := 0, embedded := false, tag := "", pkgPath := "", byteOffset := 0 }, { name := "Char", type := 9, offset := 1, embedded := false, tag := "", pkgPath := "", byteOffset := 8 }, { name := "Not", type := 4, offset := 2, embedded := false, tag := "", pkgPath := "", byteOffset := 24 }, { name := "Rows", type := 22, offset := 3, embedded := false, tag := "", pkgPath := "", byteOffset := 32 }, { name := "Min", type := 3, offset := 4, embedded := false, tag := "", pkgPath := "", byteOffset := 56 }, { name := "Max", type := 3, offset := 5, embedded := false, tag := "", pkgPath := "", byteOffset := 64 }, { name := "Lazy", type := 4, offset := 6, embedded := false, tag := "", pkgPath := "", byteOffset := 72 }, { name := "Kids", type := 23, offset := 7, embedded := false, tag := "", pkgPath := "", byteOffset := 80 }] := by kernel_rfl
theorem row_fs : Tryd.prog.fieldsOf 42 = #[{ name := "From", type := 9, offset := 0, embedded := false, tag := "", pkgPath := "", byteOffset := 0 }, { name := "To", type := 9, offset := 1, embedded := false, tag := "", pkgPath := "", byteOffset := 16 }] := by kernel_rfl
theorem cells_int : Tryd.prog.cellsOf 3 = 1 := by kernel_rfl
theorem cells_string : Tryd.prog.cellsOf 9 = 1 := by kernel_rfl
theorem cells_bool : Tryd.prog.cellsOf 4 = 1 := by kernel_rfl
theorem cells_rows : Tryd.prog.cellsOf 22 = 1 := by kernel_rfl
theorem cells_rxs : Tryd.prog.cellsOf 23 = 1 := by kernel_rfl
theorem cells_row : Tryd.prog.cellsOf 42 = 2 := by kernel_rfl
theorem cells_rx : Tryd.prog.cellsOf 25 = 8 := by kernel_rfl
theorem choose_rx {w : World} : ∀ {css : List (List Value)}, (∀ c ∈ css, ∃ x : Rx, RxV w Any c x ∧ x.mem) → ∃ xs : List Rx, RxVs w Any css xs ∧ Rx.memL xs
  | [], _ => ⟨[], .nil, by simp [Rx.memL]⟩
  | c :: css, h => by
    obtain ⟨x, hx, hm⟩ := h c (List.mem_cons_self ..)
    obtain ⟨xs, hxs, hms⟩ := choose_rx (fun d hd => h d (List.mem_cons_of_mem _ hd))
    exact ⟨x :: xs, .cons hx hxs, by simp only [Rx.memL]; exact ⟨hm, hms⟩⟩
theorem Sl.slAny {w : World} {a : Option Addr} {sz n : Nat} {cs : List Value} (h : Sl w w.heap.size a sz n cs) : SlS w Any a sz n cs :=
  (h.slS (Nat.le_refl _)).mono fun _ _ _ => trivial
section
variable {H : Type} {enc : TypeId × Value → H} {w : World} {spare : Nat → Bool} {held : Bool}
theorem open_row {n : Nat} {c : List Value} {y : DataW H × List MemPlace} (hc : c.length = 2) (hy : DataW.trod enc Tryd.prog w 0 spare held n 42 c = some y) :
    ∃ r : Str × Str, c = [.string ⟨(r.1).toArray⟩, .string ⟨(r.2).toArray⟩] ∧ r.1.length ≤ maxLen ∧ r.2.length ≤ maxLen := by
  obtain ⟨ys, m, _, _, _, hl, hfs⟩ := DataW.trod_struct row_fields hy
  match c, hc with
  | [c0, c1], _ =>
    rw [row_fs] at hfs hl
    have hys : ys.length = 2 := hl
    have f0 := hfs 0 ({ name := "From", type := 9, offset := 0, embedded := false, tag := "", pkgPath := "", byteOffset := 0 }) rfl
    have f1 := hfs 1 ({ name := "To", type := 9, offset := 1, embedded := false, tag := "", pkgPath := "", byteOffset := 16 }) rfl
    simp only [cells_string] at f0 f1
    rw [List.getElem?_eq_getElem (by omega)] at f0 f1
    obtain ⟨s0, e0, _, h0⟩ := DataW.trod_string Tryd.underlying9 f0
    obtain ⟨s1, e1, _, h1⟩ := DataW.trod_string Tryd.underlying9 f1
    simp only [List.drop, List.take] at e0 e1
    injection e0 with e0; injection e1 with e1
    subst e0 e1
    exact ⟨⟨s0.data.toList, s1.data.toList⟩, by simp, by simpa using h0, by simpa using h1⟩
theorem rx_cells : ∀ (fuel : Nat) (c : List Value) (y : DataW H × List MemPlace), c.length = 8 → DataW.trod enc Tryd.prog w 0 spare held fuel 25 c = some y → ∃ x : Rx, RxV w Any c x ∧ x.mem := by
  intro fuel
  induction fuel using Nat.strongRecOn with
  | ind fuel ih =>
    intro c y hc hy
    obtain ⟨ys, m, hm, _, _, hl, hfs⟩ := DataW.trod_struct rx_fields hy
    match c, hc with
    | [c0, c1, c2, c3, c4, c5, c6, c7], _ =>
      rw [rx_fs] at hfs hl
      have hys : ys.length = 8 := hl
      have f0 := hfs 0 ({ name := "Kind", type := 3, offset := 0, embedded := false, tag := "", pkgPath := "", byteOffset := 0 }) rfl
      have f1 := hfs 1 ({ name := "Char", type := 9, offset := 1, embedded := false, tag := "", pkgPath := "", byteOffset := 8 }) rfl
      have f2 := hfs 2 ({ name := "Not", type := 4, offset := 2, embedded := false, tag := "", pkgPath := "", byteOffset := 24 }) rfl
      have f3 := hfs 3 ({ name := "Rows", type := 22, offset := 3, embedded := false, tag := "", pkgPath := "", byteOffset := 32 }) rfl
      have f4 := hfs 4 ({ name := "Min", type := 3, offset := 4, embedded := false, tag := "", pkgPath := "", byteOffset := 56 }) rfl
      have f5 := hfs 5 ({ name := "Max", type := 3, offset := 5, embedded := false, tag := "", pkgPath := "", byteOffset := 64 }) rfl
      have f6 := hfs 6 ({ name := "Lazy", type := 4, offset := 6, embedded := false, tag := "", pkgPath := "", byteOffset := 72 }) rfl
      have f7 := hfs 7 ({ name := "Kids", type := 23, offset := 7, embedded := false, tag := "", pkgPath := "", byteOffset := 80 }) rfl
      simp only [cells_string, cells_int, cells_bool, cells_rows, cells_rxs] at f0 f1 f2 f3 f4 f5 f6 f7
      rw [List.getElem?_eq_getElem (by omega)] at f0 f1 f2 f3 f4 f5 f6 f7
      obtain ⟨n0, e0, _⟩ := DataW.trod_int Tryd.underlying3 f0
      obtain ⟨s1, e1, _, h1⟩ := DataW.trod_string Tryd.underlying9 f1
      obtain ⟨b2, e2, _⟩ := DataW.trod_bool Tryd.underlying4 f2
      obtain ⟨a3, cap3, rs, e3, h3, hr3, sl3⟩ := slice_map (fun r : Str × Str => [.string ⟨(r.1).toArray⟩, .string ⟨(r.2).toArray⟩]) (fun r => r.1.length ≤ maxLen ∧ r.2.length ≤ maxLen) Tryd.underlying22 (C := 2) cells_row (by decide) f3 (fun n c y _ hc hy => open_row hc hy)
      obtain ⟨n4, e4, _⟩ := DataW.trod_int Tryd.underlying3 f4
      obtain ⟨n5, e5, _⟩ := DataW.trod_int Tryd.underlying3 f5
      obtain ⟨b6, e6, _⟩ := DataW.trod_bool Tryd.underlying4 f6
      obtain ⟨a7, len7, cap7, css, e7, h7, hcl, hq, sl7⟩ := slice_cells Tryd.underlying23 (C := 8) cells_rx (by decide) f7 (fun c => ∃ x : Rx, RxV w Any c x ∧ x.mem) (fun n c y hn hc hy => ih n (by omega) c y hc hy)
      obtain ⟨ks, hks, hmL⟩ := choose_rx (fun c hc => (hq c hc).1)
      have hlk : len7 = ks.length := by rw [← hks.length, hcl]
      subst hlk
      simp only [List.drop, List.take] at e0 e1 e2 e3 e4 e5 e6 e7
      injection e0 with e0; injection e1 with e1; injection e2 with e2; injection e3 with e3; injection e4 with e4; injection e5 with e5; injection e6 with e6; injection e7 with e7
      subst e0 e1 e2 e3 e4 e5 e6 e7
      refine ⟨.mk n0 s1.data.toList b2 rs n4 n5 b6 ks, ?_, ?_⟩
      · have hv := RxV.mk (k := n0) (c := s1.data.toList) (ng := b2) (rs := rs) (lo := n4) (hi := n5) (lz := b6) (ks := ks) (rc := cap3) (kc := cap7) (ra := a3) (ka := a7) sl3.slAny sl7.slAny hks
        unfold rxc at hv
        rw [← ba_of] at hv
        exact hv
      · simp only [Rx.mem, Rx.mem1]
        exact ⟨⟨by simpa using h1, h3, hr3, h7⟩, hmL⟩
theorem open_rx {r : Reach} {b0 : Nat} {v : Value} {d : DataW H} {ps : List MemPlace} (hval : Value.okWide Tryd.prog w r b0 25 v) (h : DataW.Trod enc Tryd.prog w 0 spare held 25 v d ps) :
    ∃ (c : List Value) (x : Rx), v = .agg c.toArray ∧ RxV w Any c x ∧ x.mem := by
  obtain ⟨fuel, hf⟩ := h
  obtain ⟨cs, rfl, hsz⟩ := okWide_struct rx_fields hval
  rw [cells_rx] at hsz
  obtain ⟨x, hx, hm⟩ := rx_cells fuel cs.toList _ (by simpa using hsz) hf
  exact ⟨cs.toList, x, by simp, hx, hm⟩
end
end Go.Proofs.YtpggnfpjjppbmaaDoor
set_option maxRecDepth 100000
namespace Go.Proofs.YtpggnfpjjppbmaaDoor
def rwt : List (Str × Str) → Nat
  | [] => 0
  | r :: rs => 1 + r.1.length + r.2.length + rwt rs
namespace Rx
mutual
/-- What a tree weighs: parts, characters, rows. -/
def wt : Rx → Nat
  | mk _ c _ rs _ _ _ ks => 1 + c.length + rwt rs + wtL ks
def wtL : List Rx → Nat
  | [] => 0
  | x :: r => wt x + wtL r
end
end Rx
theorem leftR_eq : ∀ (rs : List (Str × Str)) (n m : Int), leftR rs n = some m → m = n - rwt rs
  | [], n, m, h => by simp only [leftR] at h; injection h with h; subst h; simp [rwt]
  | r :: rs, n, m, h => by
    simp only [leftR] at h
    split at h
    · cases h
    · have := leftR_eq rs _ m h
      simp only [rwt]; omega
theorem left_eq : ∀ (N : Nat) (x : Rx) (n : Int), x.parts ≤ N → 0 ≤ x.left n → x.left n = n - x.wt
  | 0, x, _, h, _ => by have := Rx.parts_pos x; omega
  | N + 1, .mk k c ng rs lo hi lz ks, n, h, h0 => by
    simp only [Rx.parts] at h
    have hk : ∀ (l : List Rx) (m : Int), Rx.partsL l ≤ N → 0 ≤ Rx.leftK l m → Rx.leftK l m = m - Rx.wtL l := by
      intro l
      induction l with
      | nil => intro m _ _; simp [Rx.leftK, Rx.wtL]
      | cons x r ih =>
        intro m hm a
        simp only [Rx.partsL] at hm
        simp only [Rx.leftK] at a ⊢
        split at a
        · omega
        · rename_i hneg
          rw [if_neg hneg]
          have h1 := ih _ (by omega) a
          by_cases hx : 0 ≤ x.left m
          · have := left_eq N x m (by omega) hx
            simp only [Rx.wtL]; omega
          · exfalso
            cases r with
            | nil => simp only [Rx.leftK] at a; omega
            | cons y r =>
              simp only [Rx.leftK] at a
              rw [if_pos (by omega)] at a; omega
    simp only [Rx.left] at h0 ⊢
    split at h0
    · omega
    · rename_i hc
      rw [if_neg hc]
      split at h0
      · omega
      · rename_i m hm
        have h2 := leftR_eq rs _ m hm
        have h3 := hk ks m (by omega) h0
        simp only [Rx.wt]
        show Rx.leftK ks m = _
        omega
theorem parts_wt : ∀ (N : Nat) (x : Rx), x.parts ≤ N → x.parts ≤ x.wt
  | 0, x, h => by have := Rx.parts_pos x; omega
  | N + 1, .mk k c ng rs lo hi lz ks, h => by
    simp only [Rx.parts] at h
    have hk : ∀ (l : List Rx), Rx.partsL l ≤ N → Rx.partsL l ≤ Rx.wtL l := by
      intro l
      induction l with
      | nil => intro _; simp [Rx.partsL, Rx.wtL]
      | cons x r ih =>
        intro hm
        simp only [Rx.partsL] at hm
        simp only [Rx.partsL, Rx.wtL]
        have := parts_wt N x (by omega)
        have := ih (by omega)
        omega
    have := hk ks (by omega)
    simp only [Rx.parts, Rx.wt]; omega
theorem rwt_mem : ∀ {rs : List (Str × Str)}, rs.length ≤ rwt rs ∧ ∀ r ∈ rs, r.1.length ≤ rwt rs ∧ r.2.length ≤ rwt rs
  | [] => by simp [rwt]
  | r :: rs => by
    obtain ⟨h1, h2⟩ := rwt_mem (rs := rs)
    simp only [rwt, List.length_cons]
    refine ⟨by omega, fun q hq => ?_⟩
    rcases List.mem_cons.1 hq with rfl | hq
    · omega
    · have := h2 q hq; omega
theorem small_wt : ∀ (N : Nat) (x : Rx), x.parts ≤ N → x.wt ≤ 1000000 → x.small
  | 0, x, h, _ => by have := Rx.parts_pos x; omega
  | N + 1, .mk k c ng rs lo hi lz ks, h, hw => by
    simp only [Rx.parts] at h
    simp only [Rx.wt] at hw
    have hk : ∀ (l : List Rx), Rx.partsL l ≤ N → Rx.wtL l ≤ 1000000 → Rx.smallL l := by
      intro l
      induction l with
      | nil => intro _ _; simp [Rx.smallL]
      | cons x r ih =>
        intro hm hw
        simp only [Rx.partsL] at hm
        simp only [Rx.wtL] at hw
        simp only [Rx.smallL]
        exact ⟨small_wt N x (by omega) (by omega), ih (by omega) (by omega)⟩
    obtain ⟨r1, r2⟩ := rwt_mem (rs := rs)
    have hl := Rx.len_parts ks
    have hp : Rx.partsL ks ≤ Rx.wtL ks := by
      have := parts_wt _ (.mk k [] ng [] lo hi lz ks) (Nat.le_refl _)
      simp only [Rx.parts, Rx.wt, rwt, List.length_nil] at this; omega
    simp only [Rx.small, Rx.small1]
    refine ⟨⟨by omega, by omega, fun r hr => ?_, by omega⟩, hk ks (by omega) (by omega)⟩
    have := r2 r hr; omega
theorem rowS_len : ∀ (rs : List (Str × Str)), (rs.flatMap rowS).length ≤ 3 * rwt rs
  | [] => by simp
  | r :: rs => by
    have ih := rowS_len rs
    have h1 := escL_len th2 r.1
    have h2 := escL_len th2 r.2
    have h3 : (rowS r).length ≤ r.1.length + 1 + (r.2.length + 2) := by
      unfold rowS
      split <;> simp <;> omega
    rw [List.flatMap_cons, List.length_append]
    simp only [rwt]; omega
theorem tell_len : ∀ (N : Nat) (x : Rx), x.parts ≤ N → x.wf = true → x.tell.length + 1 ≤ 15 * x.wt
  | 0, x, h, _ => by have := Rx.parts_pos x; omega
  | N + 1, .mk k c ng rs lo hi lz ks, h, hwf => by
    obtain ⟨hf, hwl⟩ := wf_mk hwf
    simp only [Rx.parts] at h
    have hk : ∀ (l : List Rx), Rx.partsL l ≤ N → Rx.wfL l = true → (Rx.tellL l).length ≤ 15 * Rx.wtL l ∧ ∀ b, (Rx.tellA b l).length ≤ 15 * Rx.wtL l := by
      intro l
      induction l with
      | nil => intro _ _; simp [Rx.tellL, Rx.tellA, Rx.wtL]
      | cons x r ih =>
        intro hm hw
        simp only [Rx.partsL] at hm
        simp only [Rx.wfL, Bool.and_eq_true] at hw
        have h1 := tell_len N x (by omega) hw.1
        obtain ⟨h2, h3⟩ := ih (by omega) hw.2
        simp only [Rx.tellL, Rx.tellA, Rx.wtL, List.length_append]
        refine ⟨by omega, fun b => ?_⟩
        have h4 := h3 true
        cases b <;> simp <;> omega
    obtain ⟨h1, h2⟩ := hk ks (by omega) hwl
    have h3 := h2 false
    have e1 := escL_len th1 c
    have e2 := rowS_len rs
    simp only [Rx.wt]
    rcases kind_le hf with rfl | rfl | rfl | rfl | rfl | rfl | rfl | rfl | rfl | rfl | rfl | rfl
    · simp [Rx.tell]; omega
    · simp [Rx.tell]; omega
    · simp [Rx.tell]; omega
    · simp [Rx.tell]; omega
    · simp only [Rx.tell]
      rw [if_neg (by decide), if_neg (by decide), if_neg (by decide), if_neg (by decide), if_neg (by decide), if_neg (by decide), if_neg (by decide), if_neg (by decide), if_pos trivial]
      unfold setS
      cases ng <;> simp only [Bool.false_eq_true, if_false, if_true, List.length_cons, List.length_append, List.length_nil] <;> omega
    · simp [Rx.tell]; omega
    · simp [Rx.tell]; omega
    · simp only [fieldsB] at hf
      rw [if_neg (by decide), if_neg (by decide), if_pos trivial] at hf
      simp only [Bool.and_eq_true, decide_eq_true_eq] at hf
      have h5 := oftS_len hf.2.1 hf.2.2.1 hf.2.2.2
      cases lz <;> simp [Rx.tell] <;> omega
    · simp [Rx.tell]; omega
    · simp [Rx.tell]; omega
    · simp [Rx.tell]; omega
    · simp [Rx.tell]; omega
end Go.Proofs.YtpggnfpjjppbmaaDoor
set_option maxRecDepth 100000
namespace Go.Proofs.YtpggnfpjjppbmaaDoor
open Go.RowKit Go.WideShapes Go.ChangeShapes
theorem own : ownKnob Tryd.prog.godebug = none := by kernel_rfl
section
variable {H : Type} {enc : TypeId × Value → H} {P : Program}
theorem args_again (hl : laidOutB P = true) {W W' : World} (hb : Below W.heap.size W W') : ∀ {ts : List TypeId} {vs : List Value} {ds : List (DataW H)} {ps : List MemPlace},
    (∀ t ∈ ts, P.readableRec t = true ∧ t < P.types.size) → DataW.TrodAll enc P W 0 (fun _ => true) true ts vs ds ps → (∀ p ∈ ps, p.block < W.heap.size) → ∀ sp : Nat → Bool, (∀ p ∈ ps, sp p.block = true) →
    DataW.TrodAll enc P W' 0 sp true ts vs ds ps
  | [], vs, ds, ps, _, h, _, sp, _ => by
    obtain ⟨rfl, rfl, rfl⟩ := trodAll_nil h
    exact trodAll_mk0
  | t :: ts, vs, ds, ps, ht, h, hlt, sp, hsp => by
    obtain ⟨v, vs', d, ds', p, q, rfl, rfl, rfl, h1, h2⟩ := trodAll_cons h
    obtain ⟨r1, r2⟩ := ht t (List.mem_cons_self ..)
    exact trodAll_cons_mk (WideElems.Trod_stays hl r1 r2 h1 (fun x hx => hb.same (hlt x (List.mem_append_left _ hx))) (fun x hx => hsp x (List.mem_append_left _ hx)))
      (args_again hl hb (fun t hm => ht t (List.mem_cons_of_mem _ hm)) h2 (fun x hx => hlt x (List.mem_append_right _ hx)) sp (fun x hx => hsp x (List.mem_append_right _ hx)))
theorem post_of_below {f : Func} {s : ChangeSpec} {apart fresh handsOn again : Bool} {W W' : World} {args : Array Value} {v : Value} {ds gs : List (DataW H)} {before pa pv : List MemPlace}
    (hW : DataW.Whole enc P f.params.toList s.vars apart W args.toList ds gs before)
    (hres : ∀ (b : Nat) (sp : Nat → Bool) (hd : Bool), DataW.TrodAll enc P W' b sp hd f.resultTypes.toList (v.resultList f.resultTypes.size) (s.fn H (ds ++ gs)).results [])
    (hargs : ∀ sp : Nat → Bool, (∀ p ∈ before, sp p.block = true) → DataW.TrodAll enc P W' 0 sp true f.params.toList args.toList (s.fn H (ds ++ gs)).args pa)
    (hvars : ∀ sp : Nat → Bool, (∀ p ∈ before, sp p.block = true) → DataW.TrodVars enc P W' sp s.vars (s.fn H (ds ++ gs)).vars pv)
    (hps : before = pa ++ pv) (hb : Below W.heap.size W W')
    (hok : ∀ (j : Nat) (t : TypeId) (r : Value), f.resultTypes[j]? = some t → (v.resultList f.resultTypes.size)[j]? = some r → Value.okWide P W' .any 0 t r) :
    s.post enc P f apart fresh handsOn again W args v W' := by
  have hlt : ∀ p ∈ before, p.block < W.heap.size := fun p hp => hW.lt p hp
  have hold : ∀ p ∈ before, (fun b => decide (b < W.heap.size)) p.block = true := fun p hp => by simpa using hlt p hp
  refine ⟨ds, gs, before, [], pa, pv, hW, hres _ _ _, hargs _ hold, hvars _ hold, World.keptBut_mono (fun p hp => ⟨hp, ?_⟩) (hb.frame (· ∈ before)), fun _ => ?_⟩
  · rw [hps, List.mem_append] at hp
    exact Or.inr hp
  · obtain ⟨_, _, _, _, _, hz, hn⟩ := hW
    refine ⟨hok, _, _, ([] ++ pa) ++ pv, ⟨[] ++ pa, pv, trodAll_append (hargs _ (fun _ _ => rfl)) (hres _ _ _), hvars _ (fun _ _ => rfl), rfl, ?_, ?_⟩, ?_⟩
    · intro b off hp
      have hin : MemPlace.cell b off ∈ before := by rw [hps]; simpa using hp
      rw [hb.frozen (hlt _ hin)]
      exact hz b off hin
    · intro ha
      have := hn ha
      rw [hps] at this
      simpa using this
    · intro p hp _
      rw [hps]
      simpa using hp
end
end Go.Proofs.YtpggnfpjjppbmaaDoor
set_option maxRecDepth 100000
namespace Go.Proofs.YtpggnfpjjppbmaaDoor
open Go.ChangeShapes Go.WideShapes Go.RowKit
theorem tab_laid {W : World} (h : laidMetH Tryd.prog [("math/bits.deBruijn32tab", Rows.laid_math_bits_deBruijn32tab), ("math/bits.deBruijn64tab", Rows.laid_math_bits_deBruijn64tab), ("internal/strconv.uint64pow10", Rows.laid_internal_strconv_uint64pow10)] W) : Tab W := by
  rw [MakeChecks.laidMetH_plain _ _ _ (by kernel_rfl)] at h
  obtain ⟨ps, ⟨g0, t0, cs0, f0, p0, q0, hg0, ht0, hv0, hd0, ⟨g1, t1, cs1, f1, p1, q1, hg1, ht1, hv1, hd1, ⟨g2, t2, cs2, f2, p2, q2, hg2, ht2, hv2, hd2, _, _⟩, _⟩, _⟩, _⟩ := h
  have hg : Tryd.prog.globalNamed "internal/strconv.uint64pow10" = some 1 := by kernel_rfl
  have ht : (Tryd.prog.globals[1]?).map (·.type) = some 112 := by kernel_rfl
  obtain rfl := Option.some.inj (hg.symm.trans hg2)
  obtain rfl := Option.some.inj (ht.symm.trans ht2)
  have hc := Lib.cells_of_tab (zs := Lib.pow10Tab) (k := .u64) Tryd.underlying112 Tryd.underlying101 (by kernel_rfl) (by kernel_rfl) hd2
  unfold Tab Lib.TabIs
  rw [hv2, ← hc]
end Go.Proofs.YtpggnfpjjppbmaaDoor
