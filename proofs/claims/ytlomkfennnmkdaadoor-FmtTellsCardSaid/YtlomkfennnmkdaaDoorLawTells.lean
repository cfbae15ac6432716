/- FmtTells: may any format be, what is it told as, what does it make of any parts: as the document tells. For every input; no condition. -/
import Derived.Test.YtlomkfennnmkdaaDoorLawBack
import Derived.Test.YtlomkfennnmkdaaDoorT15
import Derived.Test.YtlomkfennnmkdaaDoorU7
namespace Go.Proofs.YtlomkfennnmkdaaDoor
open Go.RowKit
set_option maxRecDepth 100000 in
set_option maxHeartbeats 4000000 in
theorem FmtTells_walk (aa ap : Option Addr) (ca cp : Nat) (xs : List Fm) (ps : List Str) (w : World) (ht : Tab w)
    (ha : Sl w w.heap.size aa 5 xs.length (fcells xs)) (hna : xs.length ≤ maxLen) (za : ∀ f ∈ xs, f.thn.length ≤ maxLen ∧ f.els.length ≤ maxLen)
    (hp : Sl w w.heap.size ap 1 ps.length (scells ps)) (hnp : ps.length ≤ maxLen) (zp : ∀ p ∈ ps, p.length ≤ maxLen) :
    Calls Tryd.prog 3 #[.slice aa xs.length ca, .slice ap ps.length cp] w fun e w' => e = .returned (.bool true) ∧ Below w.heap.size w w' := by
  have HA := Lib.hid ha; have ZA := Lib.hid za; have Na := Lib.hid hna; have HT := Lib.hid ht
  have HP := Lib.hid hp; have ZP := Lib.hid zp; have Np := Lib.hid hnp
  unfold maxLen at hna hnp
  clear ha za ht hp zp
  obtain ⟨lg, hlg⟩ : ∃ lg, longL ps 100 = lg := ⟨_, rfl⟩
  have HLG := Lib.hid hlg
  clear hlg
  go_enter Tryd.func3, Tryd.ntmps3
  go_wp2_with (go_at_call 6; refine (FmtsLeft_any _ _ _ _ xs _ HA.out Na.out (by omega) ZA.out).mono ?_)
  first | rintro e w1 rfl hb1 | rintro e w1 ⟨rfl, hb1⟩
  have hz1 := hb1.size
  have HP1 := Lib.hid ((HP.out.keep hb1).mono hz1)
  by_cases hout : leftF xs 200 < 0 ∨ 20 < xs.length ∨ 10 < ps.length
  · go_wp2_with (first | (go_at_call 7; exfalso; omega) | (go_at_call 8; refine (awake_any _).mono ?_; rintro e w4 ⟨rfl, hb4⟩))
    all_goals first
      | (go_ret; exact ⟨rfl, hb1.trans (hb4.mono hz1)⟩)
      | (exfalso; omega)
  · have h1 : ¬ leftF xs 200 < 0 := fun h => hout (.inl h)
    have h1' : decide (leftF xs 200 < 0) = false := decide_eq_false h1
    have h2 : xs.length ≤ 20 := by omega
    have h3 : ps.length ≤ 10 := by omega
    have HB : Hid (∀ f ∈ xs, f.thn.length ≤ 200 ∧ f.els.length ≤ 200) := Lib.hid (fun f hf => by
      have := leftF_bound2 xs 200 200 (by omega) (by omega) f hf
      omega)
    clear hout
    go_wp2_with (go_at_call 7; refine (Long_any _ _ _ _ ps _ HP1.out Np.out (by omega) ZP.out).mono ?_)
    first | rintro e w2 rfl hb2 | rintro e w2 ⟨rfl, hb2⟩
    rw [HLG.out]
    have hbw2 := hb1.trans (hb2.mono hz1)
    have hz2 := hbw2.size
    cases lg with
    | true =>
      go_wp2_with (go_at_call 8; refine (awake_any _).mono ?_; rintro e w4 ⟨rfl, hb4⟩)
      go_ret
      exact ⟨rfl, hbw2.trans (hb4.mono hz2)⟩
    | false =>
      have HBP : Hid (∀ p ∈ ps, p.length ≤ 200) := Lib.hid (fun p hp => by have := longL_bound ps 100 (by omega) HLG.out p hp; omega)
      have hX : ∃ (s : Str) (n : Int), ∀ w', Sl w' w'.heap.size aa 5 xs.length (fcells xs) → Tab w' →
          (Calls Tryd.prog 9 #[.slice aa xs.length ca] w' fun e w'' => e = .returned (.tuple #[.string ⟨(s).toArray⟩, .int .i64 n]) ∧ Below w'.heap.size w' w'') ∧
          (Calls Tryd.prog 10 #[.slice aa xs.length ca] w' fun e w'' => e = .returned (.tuple #[.string ⟨(s).toArray⟩, .int .i64 n]) ∧ Below w'.heap.size w' w'') := by
        cases hmay : mayFs xs with
        | true => exact ⟨showF xs, 0, fun w' h t => ⟨Show_any _ _ 200 xs _ h t HB.out (by omega) (by omega) hmay, rShow_any _ _ 200 xs _ h HB.out (by omega) (by omega) hmay⟩⟩
        | false => exact ⟨[], 10, fun w' h t => ⟨Show_no _ _ _ xs _ h (by omega) hmay, rShow_no _ _ _ xs _ h (by omega) hmay⟩⟩
      obtain ⟨s, n, hS⟩ := hX
      have HS := Lib.hid hS
      obtain ⟨mb, hmb⟩ : ∃ mb, mayFs xs = mb := ⟨_, rfl⟩
      obtain ⟨ax, hax⟩ : ∃ ax, applyF xs ps = ax := ⟨_, rfl⟩
      have HMB := Lib.hid hmb
      have HAX := Lib.hid hax
      have HA2 := Lib.hid ((HA.out.keep hbw2).mono hz2)
      have HT2 := Lib.hid (HT.out.keep hbw2)
      clear hS hmb hax
      go_wp2_with (go_at_call 9; refine (HS.out _ HA2.out HT2.out).1.mono ?_)
      first | rintro e w3 rfl hb3 | rintro e w3 ⟨rfl, hb3⟩
      have hbw3 := hbw2.trans (hb3.mono hz2)
      have hz3 := hbw3.size
      have HA3 := Lib.hid ((HA.out.keep hbw3).mono hz3)
      have HT3 := Lib.hid (HT.out.keep hbw3)
      clear hb3
      go_wp2_with (go_at_call 10; refine (HS.out _ HA3.out HT3.out).2.mono ?_)
      first | rintro e w5 rfl hb5 | rintro e w5 ⟨rfl, hb5⟩
      have hbw5 := hbw3.trans (hb5.mono hz3)
      have hz5 := hbw5.size
      have HA5 := Lib.hid ((HA.out.keep hbw5).mono hz5)
      clear hb5
      go_wp2_with (go_at_call 11; refine (May_any _ _ _ xs _ HA5.out (by omega)).mono ?_)
      first | rintro e w6 rfl hb6 | rintro e w6 ⟨rfl, hb6⟩
      rw [HMB.out]
      have hbw6 := hbw5.trans (hb6.mono hz5)
      have hz6 := hbw6.size
      have HA6 := Lib.hid ((HA.out.keep hbw6).mono hz6)
      clear hb6
      go_wp2_with (go_at_call 12; refine (rMay_any _ _ _ xs _ HA6.out (by omega)).mono ?_)
      first | rintro e w7 rfl hb7 | rintro e w7 ⟨rfl, hb7⟩
      rw [HMB.out]
      have hbw7 := hbw6.trans (hb7.mono hz6)
      have hz7 := hbw7.size
      have HA7 := Lib.hid ((HA.out.keep hbw7).mono hz7)
      have HP7 := Lib.hid ((HP.out.keep hbw7).mono hz7)
      clear hb7
      go_wp2_with (go_at_call 13; refine (Apply_any _ _ _ _ _ 200 xs ps _ HA7.out HP7.out HB.out HBP.out (by omega) (by omega) (by omega)).mono ?_)
      first | rintro e w8 rfl hb8 | rintro e w8 ⟨rfl, hb8⟩
      rw [HAX.out]
      have hbw8 := hbw7.trans (hb8.mono hz7)
      have hz8 := hbw8.size
      have HA8 := Lib.hid ((HA.out.keep hbw8).mono hz8)
      have HP8 := Lib.hid ((HP.out.keep hbw8).mono hz8)
      clear hb8
      go_wp2_with (go_at_call 14; refine (rApply_any _ _ _ _ _ 200 xs ps _ HA8.out HP8.out HB.out HBP.out (by omega) (by omega) (by omega)).mono ?_)
      first | rintro e w9 rfl hb9 | rintro e w9 ⟨rfl, hb9⟩
      rw [HAX.out]
      have hbw9 := hbw8.trans (hb9.mono hz8)
      have hz9 := hbw9.size
      clear hb9
      go_wp2_with (go_at_call 8; refine (awake_any _).mono ?_; rintro e w4 ⟨rfl, hb4⟩)
      go_ret
      exact ⟨rfl, hbw9.trans (hb4.mono hz9)⟩
end Go.Proofs.YtlomkfennnmkdaaDoor
