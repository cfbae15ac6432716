/- walks of Fmts, FmtsLeft, Low -/
import Derived.Test.YtlomkfennnmkdaaDoorT7
namespace Go.Proofs.YtlomkfennnmkdaaDoor
open Go.RowKit
set_option maxHeartbeats 4000000 in
theorem Fmts_any (a a' : Option Addr) (n c n' c' : Nat) (fs gs : List Fm) (w : World) (h : Sl w w.heap.size a 5 n (fcells fs)) (h' : Sl w w.heap.size a' 5 n' (fcells gs)) (hn : n ≤ 1000000) (hn' : n' ≤ 1000000) :
    Calls Tryd.prog 16 #[.slice a n c, .slice a' n' c'] w fun e w' => e = .returned (.bool (decide (fs = gs))) ∧ Below w.heap.size w w' := by
  generalize hR : decide (fs = gs) = R
  have HR := Lib.hid hR
  clear hR
  have Hn := Lib.hid h.fs_len
  have Hn' := Lib.hid h'.fs_len
  have HS := Lib.hid h
  have HS' := Lib.hid h'
  have hg := fm_guard
  clear h h'
  by_cases hnn : n = n'
  · subst hnn
    go_enter Tryd.func16, Tryd.ntmps16
    go_wp2
    go_loopw [5] (fun q wr => ∃ k : Nat, k ≤ n ∧ q = .int .i64 k ∧ Below w.heap.size w wr ∧ Hid (fs.take k = gs.take k)) (fun q _ => n - (intOf q).toNat)
    case atStart => exact ⟨0, by omega, rfl, Below.refl _ _, Lib.hid (by simp)⟩
    case round =>
      obtain ⟨k, hk, rfl, hb, HT⟩ := hrel
      by_cases hkn : k < n
      · have e1 : fs[k]? = some (fs[k]'(by have := Hn.out; omega)) := List.getElem?_eq_getElem _
        have e2 : gs[k]? = some (gs[k]'(by have := Hn'.out; omega)) := List.getElem?_eq_getElem _
        obtain ⟨f, hf⟩ : ∃ f, fs[k]? = some f := ⟨_, e1⟩
        obtain ⟨g, hg2⟩ : ∃ g, gs[k]? = some g := ⟨_, e2⟩
        obtain ⟨b, o, rfl, hbB, c0, c1, c2, c3, c4⟩ := (HS.out.keep hb).fm hf
        obtain ⟨b', o', rfl, hbB', d0, d1, d2, d3, d4⟩ := (HS'.out.keep hb).fm hg2
        have HF := Lib.hid hf
        have HG := Lib.hid hg2
        clear hf hg2 e1 e2
        by_cases hfg : f = g
        · have hd : decide (f = g) = true := by simp [hfg]
          have hnq := fm_neq f g
          have HFG := Lib.hid hfg; clear hfg
          go_wp2
          go_quiet (fail)
          go_wp2
          go_roundw
          case rel =>
            refine ⟨k + 1, by omega, by go_num, below_drewN hb _, Lib.hid ?_⟩
            have i1 := List.getElem?_eq_some_iff.1 HF.out
            have i2 := List.getElem?_eq_some_iff.1 HG.out
            rw [List.take_succ_eq_append_getElem i1.1, List.take_succ_eq_append_getElem i2.1, HT.out, i1.2, i2.2, HFG.out]
          case measure => simp [intOf]; omega
        · have hd : decide (f = g) = false := by simp [hfg]
          have hnq := fm_neq f g
          have HFG := Lib.hid hfg; clear hfg
          go_wp2
          go_quiet (fail)
          go_wp2
          go_ret
          refine ⟨ret_bool ?_, below_drewN hb _⟩
          rw [← HR.out]; symm; rw [decide_eq_false_iff_not]; intro h; subst h
          have i1 := HF.out; have i2 := HG.out
          rw [i1] at i2; injection i2 with i2; exact HFG.out i2
      · go_wp2
        go_ret
        refine ⟨ret_bool ?_, hb⟩
        have : k = n := by omega
        subst this
        have h1 := HT.out
        have h2 := Hn.out
        have h3 := Hn'.out
        rw [List.take_of_length_le (by omega), List.take_of_length_le (by omega)] at h1
        rw [← HR.out]; simp [h1]
  · have hR : R = false := by
      rw [← HR.out, decide_eq_false_iff_not]; intro h; rw [h] at Hn; have := Hn.out; have := Hn'.out; omega
    have e0 : ((n : Int) == n') = false := by rw [beq_eq_false_iff_ne]; omega
    subst hR
    clear hnn
    go_enter Tryd.func16, Tryd.ntmps16
    go_wp2
    go_ret
    exact ⟨rfl, Below.refl _ _⟩
/-- What is left of n behind the parts of a format. -/
def leftF : List Fm → Int → Int
  | [], n => n
  | f :: r, n => if n ≤ f.thn.length ∨ n ≤ f.els.length then -1 else leftF r (n - 1 - f.thn.length - f.els.length)
set_option maxHeartbeats 4000000 in
theorem FmtsLeft_any (a : Option Addr) (n c : Nat) (m : Int) (fs : List Fm) (w : World) (h : Sl w w.heap.size a 5 n (fcells fs)) (hn : n ≤ maxLen) (hm : -100000 ≤ m ∧ m ≤ 100000)
    (hsz : ∀ f ∈ fs, f.thn.length ≤ maxLen ∧ f.els.length ≤ maxLen) :
    Calls Tryd.prog 6 #[.slice a n c, .int .i64 m] w fun e w' => e = .returned (.int .i64 (leftF fs m)) ∧ Below w.heap.size w w' := by
  unfold maxLen at hn hsz
  generalize hR : leftF fs m = R
  have HR := Lib.hid hR
  clear hR
  have HR0 : Hid (leftF (fs.drop 0) m = R) := HR
  have Hn := Lib.hid h.fs_len
  have HSl := Lib.hid h
  have HSz := Lib.hid hsz
  clear HR h hsz
  obtain ⟨hm0, hm1⟩ := hm
  go_enter Tryd.func6, Tryd.ntmps6
  go_wp2
  go_loopw [1, 5] (fun s q wr => ∃ (k : Nat) (m' : Int), k ≤ n ∧ q = .int .i64 k ∧ s = .int .i64 m' ∧ -100000 ≤ m' ∧ m' ≤ 100000 ∧ Below w.heap.size w wr ∧ Hid (leftF (fs.drop k) m' = R)) (fun _ q _ => n - (intOf q).toNat)
  case atStart => exact ⟨0, m, by omega, rfl, rfl, hm0, hm1, Below.refl _ _, HR0⟩
  case round =>
    obtain ⟨k, m', hk, rfl, rfl, hm2, hm3, hb, HF⟩ := hrel
    clear HR0
    cases hd : fs.drop k with
    | nil =>
      have h2 : n ≤ k := by have := Hn.out; simp at hd; omega
      have HF' : Hid (leftF [] m' = R) := Lib.hid (by rw [← hd]; exact HF.out)
      clear hd HF
      go_wp2
      go_ret
      exact ⟨ret_int HF'.out, hb⟩
    | cons f r =>
      obtain ⟨h2, h3, hr⟩ := ldrop_cons hd
      have HF' : Hid (leftF (f :: r) m' = R) := Lib.hid (by rw [← hd]; exact HF.out)
      have Hr := Lib.hid hr
      have hkn : k < n := by have := Hn.out; omega
      obtain ⟨b, o, rfl, hbB, c0, c1, c2, c3, c4⟩ := (HSl.out.keep hb).fm h3
      obtain ⟨z1, z2⟩ := HSz.out f (List.mem_of_getElem? h3)
      clear hd HF hr h2 h3
      obtain ⟨kind, fn, cse, thn, els⟩ := f
      by_cases hA : m' ≤ thn.length ∨ m' ≤ els.length
      · have HE : Hid (R = -1) := Lib.hid (by rw [← HF'.out]; simp only [leftF]; exact if_pos hA)
        go_wp2
        all_goals first
          | (go_ret; exact ⟨ret_int HE.out.symm, hb⟩)
          | (exfalso; omega)
      · have HE : Hid (R = leftF r (m' - 1 - thn.length - els.length)) := Lib.hid (by rw [← HF'.out]; simp only [leftF]; exact if_neg hA)
        have hA1 : (thn.length : Int) < m' := by omega
        have hA2 : (els.length : Int) < m' := by omega
        clear hA
        go_wp2
        go_quiet (fail)
        go_wp2
        go_roundw
        case rel =>
          refine ⟨k + 1, m' - 1 - thn.length - els.length, by omega, by go_num, rfl, by omega, by omega, below_drewN hb _, Lib.hid ?_⟩
          rw [Hr.out, HE.out]
        case measure => simp [intOf]; omega
end Go.Proofs.YtlomkfennnmkdaaDoor
