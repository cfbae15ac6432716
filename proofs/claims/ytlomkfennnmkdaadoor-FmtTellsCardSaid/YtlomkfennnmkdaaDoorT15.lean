/- walks of Low and Long -/
import Derived.Test.YtlomkfennnmkdaaDoorApM
namespace Go.Proofs.YtlomkfennnmkdaaDoor
open Go.RowKit
/-- 'Low': a number, from 0 to below n. -/
def low (x n : Int) : Int := (x % 18446744073709551616) % n
theorem low_lt (x : Int) {n : Int} (h : 1 ≤ n) : 0 ≤ low x n ∧ low x n < n := ⟨Int.emod_nonneg _ (by omega), Int.emod_lt_of_pos _ (by omega)⟩
theorem low_eq (x n : Int) (h1 : 1 ≤ n) (h2 : n ≤ 1000000) : wrap64 ((IntKind.u64.wrap x).tmod n) = low x n := by
  have hu : IntKind.u64.wrap x = x % 18446744073709551616 := by simp [IntKind.wrap, IntKind.signed, IntKind.bits]
  have hnn : 0 ≤ x % 18446744073709551616 := by omega
  rw [hu, Int.tmod_eq_emod_of_nonneg hnn]
  have := low_lt x h1
  unfold low at *
  unfold wrap64
  omega
set_option maxHeartbeats 400000 in
theorem Low_any (x n : Int) (w : World) (h1 : 1 ≤ n) (h2 : n ≤ 1000000) :
    Calls Tryd.prog 17 #[.int .i64 x, .int .i64 n] w fun e w' => e = .returned (.int .i64 (low x n)) ∧ w = w' := by
  have HE := Lib.hid (low_eq x n h1 h2)
  go_enter Tryd.func17, Tryd.ntmps17
  go_wp2
  go_ret
  exact ⟨ret_int HE.out, rfl⟩
/-- 'Long': do texts have more than n bytes together, one for each of them too? -/
def longL : List Str → Int → Bool
  | [], _ => false
  | s :: r, n => if n ≤ s.length then true else longL r (n - s.length - 1)
def LongRel (ps : List Str) (n : Nat) (w : World) (R : Bool) (s q : Value) (wr : World) : Prop :=
  ∃ (k : Nat) (m' : Int), k ≤ n ∧ q = .int .i64 k ∧ s = .int .i64 m' ∧ -100000 ≤ m' ∧ m' ≤ 100000 ∧ Below w.heap.size w wr ∧ Hid (longL (ps.drop k) m' = R)
set_option maxHeartbeats 4000000 in
theorem Long_any (a : Option Addr) (n c : Nat) (m : Int) (ps : List Str) (w : World) (h : Sl w w.heap.size a 1 n (scells ps)) (hn : n ≤ maxLen) (hm : -100000 ≤ m ∧ m ≤ 100000)
    (hsz : ∀ p ∈ ps, p.length ≤ maxLen) :
    Calls Tryd.prog 7 #[.int .i64 m, .slice a n c] w fun e w' => e = .returned (.bool (longL ps m)) ∧ Below w.heap.size w w' := by
  unfold maxLen at hn hsz
  generalize hR : longL ps m = R
  have HR := Lib.hid hR
  clear hR
  have HR0 : Hid (longL (ps.drop 0) m = R) := HR
  have Hn := Lib.hid h.str_len
  have HSl := Lib.hid h
  have HSz := Lib.hid hsz
  clear HR h hsz
  obtain ⟨hm0, hm1⟩ := hm
  go_enter Tryd.func7, Tryd.ntmps7
  go_wp2
  go_loopw [0, 5] (fun s q wr => LongRel ps n w R s q wr) (fun _ q _ => n - (intOf q).toNat)
  case atStart => exact ⟨0, m, by omega, rfl, rfl, hm0, hm1, Below.refl _ _, HR0⟩
  case round =>
    obtain ⟨k, m', hk, rfl, rfl, hm2, hm3, hb, HF⟩ := hrel
    clear HR0
    cases hd : ps.drop k with
    | nil =>
      have h2 : n ≤ k := by have := Hn.out; simp at hd; omega
      have HF' : Hid (longL [] m' = R) := Lib.hid (by rw [← hd]; exact HF.out)
      clear hd HF
      go_wp2
      go_ret
      exact ⟨ret_bool HF'.out, hb⟩
    | cons f r =>
      obtain ⟨h2, h3, hr⟩ := ldrop_cons hd
      have HF' : Hid (longL (f :: r) m' = R) := Lib.hid (by rw [← hd]; exact HF.out)
      have Hr := Lib.hid hr
      have hkn : k < n := by have := Hn.out; omega
      obtain ⟨b, o, rfl, hbB, c0⟩ := (HSl.out.keep hb).str h3
      have z1 := HSz.out f (List.mem_of_getElem? h3)
      clear hd HF hr h2 h3
      by_cases hA : m' ≤ f.length
      · have HE : Hid (R = true) := Lib.hid (by rw [← HF'.out]; simp only [longL]; exact if_pos hA)
        go_wp2
        go_ret
        exact ⟨ret_bool HE.out.symm, hb⟩
      · have HE : Hid (R = longL r (m' - f.length - 1)) := Lib.hid (by rw [← HF'.out]; simp only [longL]; exact if_neg hA)
        go_wp2
        go_roundw
        case rel =>
          refine ⟨k + 1, m' - f.length - 1, by omega, by go_num, rfl, by omega, by omega, hb, Lib.hid ?_⟩
          rw [Hr.out, HE.out]
        case measure => simp [intOf]; omega
end Go.Proofs.YtlomkfennnmkdaaDoor
