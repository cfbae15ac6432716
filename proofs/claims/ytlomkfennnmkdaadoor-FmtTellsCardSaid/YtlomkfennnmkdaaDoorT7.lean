/- walk of fmts.May -/
import Derived.Test.YtlomkfennnmkdaaDoorT6
namespace Go.Proofs.YtlomkfennnmkdaaDoor
open Go.RowKit
set_option maxHeartbeats 4000000 in
theorem May_any (a : Option Addr) (n c : Nat) (fs : List Fm) (w : World) (h : Sl w w.heap.size a 5 n (fcells fs)) (hn : n ≤ 1000000) :
    Calls Tryd.prog 11 #[.slice a n c] w fun e w' => e = .returned (.bool (mayFs fs)) ∧ Below w.heap.size w w' := by
  generalize hR : mayFs fs = R
  have HR := Lib.hid hR
  clear hR
  have HR0 : Hid (mayL false (fs.drop 0) = R) := HR
  have Hn := Lib.hid h.fs_len
  have HSl := Lib.hid h
  clear HR h
  go_enter Tryd.func11, Tryd.ntmps11
  go_wp2
  go_loopw [7] (fun q wr => ∃ (k : Nat) (pt : Bool), k ≤ n ∧ q = .int .i64 k ∧ Below w.heap.size w wr ∧ Hid ((k = 0 → pt = false) ∧ (0 < k → ∀ g, fs[k - 1]? = some g → decide (g.kind = 0) = pt)) ∧ Hid (mayL pt (fs.drop k) = R)) (fun q _ => n - (intOf q).toNat)
  case atStart => exact ⟨0, false, by omega, rfl, Below.refl _ _, Lib.hid ⟨fun _ => rfl, fun h => by omega⟩, HR0⟩
  case round =>
    obtain ⟨k, pt, hk, rfl, hb, HP, HF⟩ := hrel
    clear HR0
    have hB := hb.size
    cases hd : fs.drop k with
    | nil =>
      have h2 : n ≤ k := by have := Hn.out; simp at hd; omega
      have HF' : Hid (mayL pt [] = R) := Lib.hid (by rw [← hd]; exact HF.out)
      clear hd HF
      go_wp2
      go_ret
      exact ⟨ret_bool HF'.out, hb⟩
    | cons f r =>
      obtain ⟨h2, h3, hr⟩ := ldrop_cons hd
      have HF' : Hid (mayL pt (f :: r) = R) := Lib.hid (by rw [← hd]; exact HF.out)
      have Hr := Lib.hid hr
      have HK := Lib.hid h3
      have hkn : k < n := by have := Hn.out; omega
      obtain ⟨b, o, rfl, hbB, c0, c1, c2, c3, c4⟩ := (HSl.out.keep hb).fm h3
      clear hd HF hr h2 h3
      obtain ⟨kind, fn, cse, thn, els⟩ := f
      by_cases hm : mayF ⟨kind, fn, cse, thn, els⟩ = true
      · have HM := Lib.hid hm
        have c5 : ∀ w1, Below (wr.heap.size + 1) (wr.alloc (.cells #[.int .i64 kind, .int .i64 fn, .int .i64 cse, .string ⟨(thn).toArray⟩, .string ⟨(els).toArray⟩] 41)) w1 → w1.cell? ⟨wr.heap.size, 0, none⟩ = some (.int .i64 kind) := fun w1 h1 => by
          rw [h1.cell (p := ⟨wr.heap.size, 0, none⟩) (by simp)]; simp
        have C5 := Lib.hid c5; clear c5
        by_cases hk0 : kind = 0
        · subst hk0
          by_cases hkk : k = 0
          · have hpt := HP.out.1 hkk
            have hkk' : k ≤ 0 := by omega
            subst hpt
            have HKK := Lib.hid hkk; clear hkk
            go_wp2_with (go_at_call 26; refine (may_any ⟨0, fn, cse, thn, els⟩ _).mono ?_; rintro e w1 ⟨rfl, hb1⟩; have d5 := C5.out w1 (by simpa using hb1); have hbw : Below w.heap.size wr w1 := ((Below.refl _ _).alloc hB _).trans (hb1.mono (by simp; omega)))
            clear hm
            go_roundw
            case rel =>
              refine ⟨k + 1, true, by omega, by go_num, hb.trans hbw, Lib.hid ⟨fun h => by omega, fun _ g hg => ?_⟩, ?_⟩
              · rw [show k + 1 - 1 = k from rfl, HK.out] at hg; injection hg with hg; subst hg; first | rfl | (simp; done) | (simp [HK0.out]; done)
              · refine Lib.hid ?_
                rw [Hr.out, ← HF'.out]; conv => rhs; unfold mayL
                (rw [HM.out]; rfl)
            case measure => simp [intOf]; omega
          · obtain ⟨g, hg⟩ : ∃ g, fs[k - 1]? = some g := ⟨fs[k - 1]'(by have := Hn.out; omega), List.getElem?_eq_getElem (by have := Hn.out; omega)⟩
            have hpg := HP.out.2 (by omega) g hg
            obtain ⟨b', o', hab, _, g0, _⟩ := HSl.out.fm hg
            have hbo : b' = b ∧ o' = o := by simpa using hab.symm
            obtain ⟨rfl, rfl⟩ := hbo
            have hkp : 0 < k := by omega
            have ek : ((k - 1 : Nat) : Int) = (k : Int) - 1 := by omega
            have e1 : (k : Int) - 1 < n ∧ 0 ≤ (k : Int) - 1 := by omega
            obtain ⟨gk, gn, gc, gt, ge⟩ := g
            have G0 := Lib.hid g0
            have HPG := Lib.hid hpg
            clear hab g0 hpg hkk hg
            by_cases hgk : gk = 0
            · subst hgk
              go_wp2_with (go_at_call 26; refine (may_any ⟨0, fn, cse, thn, els⟩ _).mono ?_; rintro e w1 ⟨rfl, hb1⟩; have d5 := C5.out w1 (by simpa using hb1); have hbw : Below w.heap.size wr w1 := ((Below.refl _ _).alloc hB _).trans (hb1.mono (by simp; omega)); have g1 : w1.cell? ⟨b', o' + (k - 1) * 5, none⟩ = some (.int .i64 0) := ((hb.trans hbw).cell (p := ⟨b', o' + (k - 1) * 5, none⟩) hbB).trans G0.out)
              go_ret
              refine ⟨ret_bool ?_, hb.trans hbw⟩
              rw [← HF'.out, mayL, ← HPG.out]; simp
            · have eg : (gk == 0) = false := by simpa using hgk
              have HGK := Lib.hid hgk; clear hgk
              go_wp2_with (go_at_call 26; refine (may_any ⟨0, fn, cse, thn, els⟩ _).mono ?_; rintro e w1 ⟨rfl, hb1⟩; have d5 := C5.out w1 (by simpa using hb1); have hbw : Below w.heap.size wr w1 := ((Below.refl _ _).alloc hB _).trans (hb1.mono (by simp; omega)); have g1 : w1.cell? ⟨b', o' + (k - 1) * 5, none⟩ = some (.int .i64 gk) := ((hb.trans hbw).cell (p := ⟨b', o' + (k - 1) * 5, none⟩) hbB).trans G0.out)
              clear hm
              go_roundw
              case rel =>
                refine ⟨k + 1, true, by omega, by go_num, hb.trans hbw, Lib.hid ⟨fun h => by omega, fun _ g hg => ?_⟩, ?_⟩
                · rw [show k + 1 - 1 = k from rfl, HK.out] at hg; injection hg with hg; subst hg; first | rfl | (simp; done) | (simp [HK0.out]; done)
                · refine Lib.hid ?_
                  rw [Hr.out, ← HF'.out]; conv => rhs; unfold mayL
                  (rw [HM.out, ← HPG.out]; simp [HGK.out])
              case measure => simp [intOf]; omega
        · have e0 : (kind == 0) = false := by simpa using hk0
          have HK0 := Lib.hid hk0; clear hk0
          go_wp2_with (go_at_call 26; refine (may_any ⟨kind, fn, cse, thn, els⟩ _).mono ?_; rintro e w1 ⟨rfl, hb1⟩; have d5 := C5.out w1 (by simpa using hb1); have hbw : Below w.heap.size wr w1 := ((Below.refl _ _).alloc hB _).trans (hb1.mono (by simp; omega)))
          clear hm
          go_roundw
          case rel =>
            refine ⟨k + 1, false, by omega, by go_num, hb.trans hbw, Lib.hid ⟨fun h => by omega, fun _ g hg => ?_⟩, ?_⟩
            · rw [show k + 1 - 1 = k from rfl, HK.out] at hg; injection hg with hg; subst hg; first | rfl | (simp; done) | (simp [HK0.out]; done)
            · refine Lib.hid ?_
              rw [Hr.out, ← HF'.out]; conv => rhs; unfold mayL
              (rw [HM.out]; simp [HK0.out])
          case measure => simp [intOf]; omega
      · have hm' : mayF ⟨kind, fn, cse, thn, els⟩ = false := by simpa using hm
        clear hm
        go_wp2_with (go_at_call 26; refine (may_any ⟨kind, fn, cse, thn, els⟩ _).mono ?_; rintro e w1 ⟨rfl, hb1⟩)
        go_ret
        refine ⟨ret_bool ?_, hb.trans (((Below.refl _ _).alloc hB _).trans (hb1.mono (by simp; omega)))⟩
        rw [← HF'.out, mayL, hm']; rfl
end Go.Proofs.YtlomkfennnmkdaaDoor
