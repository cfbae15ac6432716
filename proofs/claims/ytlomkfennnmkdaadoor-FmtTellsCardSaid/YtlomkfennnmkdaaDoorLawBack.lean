/- FmtBack: a format that may be is read from what it is told as and a slash, ahead of whatever, up to that very slash. For every input; no condition. -/
import Derived.Test.YtlomkfennnmkdaaDoorT14
import Derived.Test.YtlomkfennnmkdaaDoorT17
import Derived.Test.YtlomkfennnmkdaaDoorJoinM
namespace Go.Proofs.YtlomkfennnmkdaaDoor
open Go.RowKit
theorem showF_len {fs : List Fm} {m : Nat} (hm : ∀ f ∈ fs, mayF f = true) (hf : ∀ f ∈ fs, f.thn.length ≤ m ∧ f.els.length ≤ m) : (showF fs).length ≤ fs.length * (4 * m + 20) := by
  induction fs with
  | nil => simp [showF]
  | cons f r ih =>
    have h1 := ih (fun g hg => hm g (List.mem_cons_of_mem _ hg)) (fun g hg => hf g (List.mem_cons_of_mem _ hg))
    have h2 := hf f (List.mem_cons_self ..)
    have h3 := showP_len (hm f (List.mem_cons_self ..)) h2.1 h2.2
    simp only [showF, List.flatMap_cons, List.length_append, List.length_cons] at *
    rw [Nat.succ_mul]; omega
theorem leftF_bound2 : ∀ (fs : List Fm) (n m : Int), n ≤ m → 0 ≤ leftF fs n → ∀ f ∈ fs, (f.thn.length : Int) ≤ m ∧ (f.els.length : Int) ≤ m
  | [], _, _, _, _, f, hf => by simp at hf
  | g :: r, n, m, hn, h, f, hf => by
    simp only [leftF] at h
    split at h
    · omega
    · rename_i hc
      rcases List.mem_cons.1 hf with rfl | hf
      · omega
      · exact leftF_bound2 r _ m (by omega) h f hf
set_option maxHeartbeats 4000000 in
theorem FmtBack_walk (aa : Option Addr) (ca : Nat) (xs : List Fm) (p b : Str) (w : World) (ht : Tab w)
    (ha : Sl w w.heap.size aa 5 xs.length (fcells xs)) (hna : xs.length ≤ maxLen) (hp : p.length ≤ maxLen) (hbl : b.length ≤ maxLen)
    (za : ∀ f ∈ xs, f.thn.length ≤ maxLen ∧ f.els.length ≤ maxLen) :
    Calls Tryd.prog 4 #[.slice aa xs.length ca, .string ⟨(p).toArray⟩, .string ⟨(b).toArray⟩] w fun e w' => e = .returned (.bool true) ∧ Below w.heap.size w w' := by
  have HA := Lib.hid ha; have ZA := Lib.hid za; have Na := Lib.hid hna; have HT := Lib.hid ht
  unfold maxLen at hna hp hbl
  clear ha za ht
  go_enter Tryd.func4, Tryd.ntmps4
  go_wp2_with (go_at_call 6; refine (FmtsLeft_any _ _ _ _ xs _ HA.out Na.out (by omega) ZA.out).mono ?_)
  first | rintro e w1 rfl hb1 | rintro e w1 ⟨rfl, hb1⟩
  have hz1 := hb1.size
  by_cases hout : leftF xs 200 < 0 ∨ 20 < xs.length ∨ 40 < p.length ∨ 40 < b.length
  · go_wp2_with (go_at_call 8; refine (awake_any _).mono ?_; rintro e w4 ⟨rfl, hb4⟩)
    all_goals first
      | (go_ret; exact ⟨rfl, hb1.trans (hb4.mono hz1)⟩)
      | (exfalso; omega)
  · have h1 : ¬ leftF xs 200 < 0 := fun h => hout (.inl h)
    have h2 : xs.length ≤ 20 := by omega
    have h3 : p.length ≤ 40 := by omega
    have h4 : b.length ≤ 40 := by omega
    clear hout
    have HB : Hid (∀ f ∈ xs, f.thn.length ≤ 200 ∧ f.els.length ≤ 200) := Lib.hid (fun f hf => by
      have := leftF_bound2 xs 200 200 (by omega) (by omega) f hf
      omega)
    have HA1 := Lib.hid ((HA.out.keep hb1).mono hz1)
    have HT1 := Lib.hid (HT.out.keep hb1)
    cases hmay : mayFs xs with
    | false =>
      have HN := Lib.hid hmay
      clear hmay
      go_wp2_with (go_at_call 9; refine (Show_no _ _ _ xs _ HA1.out (by omega) HN.out).mono ?_)
      first | rintro e w2 rfl hb2 | rintro e w2 ⟨rfl, hb2⟩
      have hbw2 := hb1.trans (hb2.mono hz1)
      have hz2 := hbw2.size
      have HA2 := Lib.hid ((HA1.out.keep hb2).mono hb2.size)
      go_wp2_with (go_at_call 11; refine (May_any _ _ _ xs _ HA2.out (by omega)).mono ?_)
      first | rintro e w3 rfl hb3 | rintro e w3 ⟨rfl, hb3⟩
      rw [HN.out]
      have hbw3 := hbw2.trans (hb3.mono hz2)
      have hz3 := hbw3.size
      have HA3 := Lib.hid ((HA2.out.keep hb3).mono hb3.size)
      have HL := Lib.hid (Sl.lit (n := 2) (sz := 1) (heap_alloc_new w3 (.cells #[.string ⟨([120]).toArray⟩, .string ⟨([121]).toArray⟩] 9)) rfl)
      have HE : Hid (applyF xs [[120], [121]] = []) := Lib.hid (by unfold applyF; rw [HN.out]; rfl)
      go_wp2_with (go_at_call 13; refine (Apply_any _ _ _ _ _ 200 xs [[120], [121]] _ (HA3.out.alloc_self _) HL.out HB.out (by decide) (by decide) (by omega) (by decide)).mono ?_)
      first | rintro e w5 rfl hb5 | rintro e w5 ⟨rfl, hb5⟩
      rw [HE.out]
      have hbw5 := (hbw3.alloc (by omega) (.cells #[.string ⟨([120]).toArray⟩, .string ⟨([121]).toArray⟩] 9)).trans (hb5.mono (by simp; omega))
      go_wp2_with (go_at_call 8; refine (awake_any _).mono ?_; rintro e w4 ⟨rfl, hb4⟩)
      go_ret
      exact ⟨rfl, hbw5.trans (hb4.mono hbw5.size)⟩
    | true =>
      have HN := Lib.hid hmay
      clear hmay
      have hsl := showF_len (mayL_all _ _ HN.out) HB.out
      have hsl2 : (showF xs).length ≤ 20000 := by
        have : xs.length * (4 * 200 + 20) ≤ 20 * (4 * 200 + 20) := Nat.mul_le_mul h2 (Nat.le_refl _)
        omega
      clear hsl
      have hrd := read_show b xs [] false [] (show mayL false xs = true from HN.out) (fun _ => rfl)
      have HR : Hid (readX ((p ++ (showF xs ++ 47 :: b)).drop ((p.length : Nat) : Int).toNat) [] [] = some (xs, 47 :: b)) := Lib.hid (by rw [Int.toNat_natCast, List.drop_left, hrd]; simp [flushF])
      clear hrd
      go_wp2_with (go_at_call 9; refine (Show_any _ _ 200 xs _ HA1.out HT1.out HB.out (by omega) (by omega) HN.out).mono ?_)
      first | rintro e w2 rfl hb2 | rintro e w2 ⟨rfl, hb2⟩
      have hbw2 := hb1.trans (hb2.mono hz1)
      have hz2 := hbw2.size
      have HA2 := Lib.hid ((HA1.out.keep hb2).mono hb2.size)
      go_wp2_with (go_at_call 11; refine (May_any _ _ _ xs _ HA2.out (by omega)).mono ?_)
      first | rintro e w3 rfl hb3 | rintro e w3 ⟨rfl, hb3⟩
      rw [HN.out]
      have hbw3 := hbw2.trans (hb3.mono hz2)
      have hz3 := hbw3.size
      have HA3 := Lib.hid ((HA2.out.keep hb3).mono hb3.size)
      go_wp2_with (go_at_call 15; refine (Read_some (l := p ++ (showF xs ++ 47 :: b)) (i := (p.length : Nat)) _ (by omega) (by simp; omega) (by simp; omega) HR.out).mono ?_)
      rintro e w5 ⟨hb5, a, c, j, rfl, hsl, hj0, hj1, hj2, hfl, hlo⟩
      have hbw5 := hbw3.trans (hb5.mono hz3)
      have hz5 := hbw5.size
      have hj : j = p.length + (showF xs).length := by
        have h5 := congrArg List.length hj2
        simp at h5 hj1; omega
      subst hj
      have hF := Fmts_any a aa xs.length c xs.length ca xs xs w5 hsl ((HA3.out.keep hb5).mono hb5.size) (by omega) (by omega)
      rw [decide_eq_true rfl] at hF
      have HF := Lib.hid hF
      clear hF hsl hj2
      go_wp2_with (first | (go_at_call 16; refine HF.out.mono ?_; rintro e w6 ⟨rfl, hb6⟩; have hbw6 := hbw5.trans (hb6.mono hz5)) | (go_at_call 8; refine (awake_any _).mono ?_; rintro e w4 ⟨rfl, hb4⟩))
      go_ret
      exact ⟨rfl, hbw6.trans (hb4.mono hbw6.size)⟩
end Go.Proofs.YtlomkfennnmkdaaDoor
