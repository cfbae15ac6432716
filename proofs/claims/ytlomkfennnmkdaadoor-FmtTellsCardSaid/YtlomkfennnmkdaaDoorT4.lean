/- walks of casing: joined, Turn -/
import Derived.Test.YtlomkfennnmkdaaDoorT3
namespace Go.Proofs.YtlomkfennnmkdaaDoor
open Go.RowKit
set_option maxHeartbeats 2000000 in
theorem joined_any (l : Str) (small : Bool) (w : World) (hs : l.length ≤ 1000000) :
    Calls Tryd.prog 40 #[.string ⟨(l).toArray⟩, .bool small] w fun e w' => e = .returned (.string ⟨(joinL small false l []).toArray⟩) ∧ Below w.heap.size w w' := by
  generalize hR : joinL small false l [] = R
  have HR := Lib.hid hR
  clear hR
  have HR0 : Hid (joinL small false (l.drop 0) [] = R) := HR
  clear HR
  go_enter Tryd.func40, Tryd.ntmps40
  go_wp2
  go_loopw [6] (fun q wr => ∃ (i : Nat) (acc : Str) (pw : Bool), i ≤ l.length ∧ q = .int .i64 i ∧ Bld w.heap.size w.heap.size acc wr ∧ Below w.heap.size w wr ∧ acc.length ≤ i ∧ Hid ((i = 0 → pw = false) ∧ (0 < i → ∀ x, l[i - 1]? = some x → wordB x = pw)) ∧ Hid (joinL small pw (l.drop i) acc = R)) (fun q _ => l.length - (intOf q).toNat)
  case atStart => exact ⟨0, [], false, by omega, rfl, Bld.fresh _ _ (Nat.le_refl _), (Below.refl _ _).alloc (Nat.le_refl _) _, by simp, Lib.hid ⟨fun _ => rfl, fun h => by omega⟩, HR0⟩
  case round =>
    obtain ⟨i, acc, pw, hi, rfl, hbl, hb, hacc, HP, HF⟩ := hrel
    clear HR0
    have hB := hb.size
    cases hd : l.drop i with
    | nil =>
      have h2 := drop_nil hd
      have HF' : Hid (joinL small pw [] acc = R) := Lib.hid (by rw [← hd]; exact HF.out)
      clear hd HF
      go_wp2_with (go_at_call 22; refine (String_any _ _ _ _ hbl hB).mono ?_; rintro e w1 ⟨rfl, hb1⟩)
      go_ret
      exact ⟨ret_str (by rw [← HF'.out]; rfl), hb.trans hb1⟩
    | cons c r =>
      obtain ⟨h2, h3, hr⟩ := drop_cons hd
      have HF' : Hid (joinL small pw (c :: r) acc = R) := Lib.hid (by rw [← hd]; exact HF.out)
      have Hr := Lib.hid hr
      have hc256 := u8_lt c
      clear hd HF hr
      by_cases hw : wordB c = true
      · have HW := Lib.hid hw
        by_cases hpw : pw = true
        · have hi0 : 0 < i := by
            rcases Nat.eq_zero_or_pos i with h | h
            · have := HP.out.1 h; rw [this] at hpw; cases hpw
            · exact h
          obtain ⟨x, hx⟩ : ∃ x, l[i - 1]? = some x := ⟨l[i - 1], List.getElem?_eq_getElem (by omega)⟩
          have hxw : wordB x = true := by rw [HP.out.2 hi0 x hx, hpw]
          have hx3 : ∀ h : i - 1 < l.length, l[i - 1]'h = x := fun h => by rw [List.getElem?_eq_getElem h] at hx; injection hx
          have hx256 := u8_lt x
          have hgt : decide ((0 : Int) < i) = true := by simp; omega
          subst hpw
          clear hx
          go_wp2_with (first | (go_at_call 50; refine (word_any _ _ (by omega) (by omega)).mono ?_; rintro e w1 ⟨rfl, rfl⟩) | (go_at_call 34; refine (WriteByte_any w.heap.size _ acc _ _ hbl (by omega) hB (by omega) (by omega)).mono ?_))
          rintro e w2 ⟨rfl, hbl2, hfr2⟩
          rw [u8_back] at hbl2
          clear hw hxw hx3
          have hB3 := hbl2.lt
          go_wp2_with fail
          go_roundw
          case rel =>
            refine ⟨i + 1, acc ++ [c], true, by omega, by go_num, hbl2, hb.trans (hfr2.below hB (by simp)), ?_, Lib.hid ⟨fun h => by omega, fun _ x hx => ?_⟩, ?_⟩
            · first | omega | (simp; done) | (simp; omega)
            · rw [show i + 1 - 1 = i from rfl, List.getElem?_eq_getElem h2, h3] at hx
              injection hx with hx; subst hx; first | exact HW.out | rfl
            · refine Lib.hid ?_
              rw [Hr.out, ← HF'.out]; conv => rhs; unfold joinL
              rw [if_pos HW.out, if_pos rfl]
          case measure => simp [intOf]; omega
        · have hpf : pw = false := by simpa using hpw
          subst hpf
          clear hpw
          rcases Nat.eq_zero_or_pos i with hi0 | hi0
          · have hgt : i ≤ 0 := by omega
            have HI0 := Lib.hid hi0; clear hi0
            cases small with
            | false =>
              go_wp2_with (first | (go_at_call 50; refine (word_any _ _ (by omega) (by omega)).mono ?_; rintro e w1 ⟨rfl, rfl⟩) | (go_at_call 38; refine (upper_any _ _ (by omega) (by omega)).mono ?_; rintro e w1 ⟨rfl, rfl⟩) | (go_at_call 34; refine (WriteByte_any w.heap.size _ acc _ _ hbl (by omega) hB (by omega) (by have := u8_lt (upB c); simp; omega)).mono ?_))
              rintro e w2 ⟨rfl, hbl2, hfr2⟩
              simp only [Int.toNat_natCast, UInt8.ofNat_toNat] at hbl2
              clear hw
              have hB3 := hbl2.lt
              go_wp2_with fail
              go_roundw
              case rel =>
                refine ⟨i + 1, acc ++ [upB c], true, by omega, by go_num, hbl2, hb.trans (hfr2.below hB (by simp)), ?_, Lib.hid ⟨fun h => by omega, fun _ x hx => ?_⟩, ?_⟩
                · first | omega | (simp; done) | (simp; omega)
                · rw [show i + 1 - 1 = i from rfl, List.getElem?_eq_getElem h2, h3] at hx
                  injection hx with hx; subst hx; first | exact HW.out | rfl
                · refine Lib.hid ?_
                  rw [Hr.out, ← HF'.out]; conv => rhs; unfold joinL
                  rw [if_pos HW.out, if_neg (by simp), if_neg (by simp)]
              case measure => simp [intOf]; omega
            | true =>
              by_cases hacc0 : acc = []
              · subst hacc0
                go_wp2_with (first | (go_at_call 50; refine (word_any _ _ (by omega) (by omega)).mono ?_; rintro e w1 ⟨rfl, rfl⟩) | (go_at_call 51; refine (Len_any _ _ _ _ hbl).mono ?_; rintro e w1 ⟨rfl, rfl⟩) | (go_at_call 39; refine (lower_any _ _ (by omega) (by omega)).mono ?_; rintro e w1 ⟨rfl, rfl⟩) | (go_at_call 34; refine (WriteByte_any w.heap.size _ [] _ _ hbl (by simp) hB (by omega) (by have := u8_lt (lowB c); simp; omega)).mono ?_))
                rintro e w2 ⟨rfl, hbl2, hfr2⟩
                simp only [Int.toNat_natCast, UInt8.ofNat_toNat] at hbl2
                clear hw
                have hB3 := hbl2.lt
                go_wp2_with fail
                go_roundw
                case rel =>
                  refine ⟨i + 1, [] ++ [lowB c], true, by omega, by go_num, hbl2, hb.trans (hfr2.below hB (by simp)), ?_, Lib.hid ⟨fun h => by omega, fun _ x hx => ?_⟩, ?_⟩
                  · first | omega | (simp; done) | (simp; omega)
                  · rw [show i + 1 - 1 = i from rfl, List.getElem?_eq_getElem h2, h3] at hx
                    injection hx with hx; subst hx; first | exact HW.out | rfl
                  · refine Lib.hid ?_
                    rw [Hr.out, ← HF'.out]; conv => rhs; unfold joinL
                    rw [if_pos HW.out, if_neg (by simp), if_pos ⟨rfl, rfl⟩]
                case measure => simp [intOf]; omega
              · have hl0 : ((acc.length : Int) == 0) = false := by
                  rw [beq_eq_false_iff_ne]; intro h; exact hacc0 (List.eq_nil_of_length_eq_zero (by omega))
                have HA := Lib.hid hacc0; clear hacc0
                go_wp2_with (first | (go_at_call 50; refine (word_any _ _ (by omega) (by omega)).mono ?_; rintro e w1 ⟨rfl, rfl⟩) | (go_at_call 51; refine (Len_any _ _ _ _ hbl).mono ?_; rintro e w1 ⟨rfl, rfl⟩) | (go_at_call 38; refine (upper_any _ _ (by omega) (by omega)).mono ?_; rintro e w1 ⟨rfl, rfl⟩) | (go_at_call 34; refine (WriteByte_any w.heap.size _ acc _ _ hbl (by omega) hB (by omega) (by have := u8_lt (upB c); simp; omega)).mono ?_))
                rintro e w2 ⟨rfl, hbl2, hfr2⟩
                simp only [Int.toNat_natCast, UInt8.ofNat_toNat] at hbl2
                clear hw
                have hB3 := hbl2.lt
                go_wp2_with fail
                go_roundw
                case rel =>
                  refine ⟨i + 1, acc ++ [upB c], true, by omega, by go_num, hbl2, hb.trans (hfr2.below hB (by simp)), ?_, Lib.hid ⟨fun h => by omega, fun _ x hx => ?_⟩, ?_⟩
                  · first | omega | (simp; done) | (simp; omega)
                  · rw [show i + 1 - 1 = i from rfl, List.getElem?_eq_getElem h2, h3] at hx
                    injection hx with hx; subst hx; first | exact HW.out | rfl
                  · refine Lib.hid ?_
                    rw [Hr.out, ← HF'.out]; conv => rhs; unfold joinL
                    rw [if_pos HW.out, if_neg (by simp), if_neg (fun h => HA.out h.2)]
                case measure => simp [intOf]; omega
          · obtain ⟨x, hx⟩ : ∃ x, l[i - 1]? = some x := ⟨l[i - 1], List.getElem?_eq_getElem (by omega)⟩
            have hxw : wordB x = false := HP.out.2 hi0 x hx
            have hx3 : ∀ h : i - 1 < l.length, l[i - 1]'h = x := fun h => by rw [List.getElem?_eq_getElem h] at hx; injection hx
            have hx256 := u8_lt x
            have hgt : decide ((0 : Int) < i) = true := by simp; omega
            clear hx
            cases small with
            | false =>
              go_wp2_with (first | (go_at_call 50; refine (word_any _ _ (by omega) (by omega)).mono ?_; rintro e w1 ⟨rfl, rfl⟩) | (go_at_call 38; refine (upper_any _ _ (by omega) (by omega)).mono ?_; rintro e w1 ⟨rfl, rfl⟩) | (go_at_call 34; refine (WriteByte_any w.heap.size _ acc _ _ hbl (by omega) hB (by omega) (by have := u8_lt (upB c); simp; omega)).mono ?_))
              rintro e w2 ⟨rfl, hbl2, hfr2⟩
              simp only [Int.toNat_natCast, UInt8.ofNat_toNat] at hbl2
              clear hw
              have hB3 := hbl2.lt
              go_wp2_with fail
              go_roundw
              case rel =>
                refine ⟨i + 1, acc ++ [upB c], true, by omega, by go_num, hbl2, hb.trans (hfr2.below hB (by simp)), ?_, Lib.hid ⟨fun h => by omega, fun _ x hx => ?_⟩, ?_⟩
                · first | omega | (simp; done) | (simp; omega)
                · rw [show i + 1 - 1 = i from rfl, List.getElem?_eq_getElem h2, h3] at hx
                  injection hx with hx; subst hx; first | exact HW.out | rfl
                · refine Lib.hid ?_
                  rw [Hr.out, ← HF'.out]; conv => rhs; unfold joinL
                  rw [if_pos HW.out, if_neg (by simp), if_neg (by simp)]
              case measure => simp [intOf]; omega
            | true =>
              by_cases hacc0 : acc = []
              · subst hacc0
                go_wp2_with (first | (go_at_call 50; refine (word_any _ _ (by omega) (by omega)).mono ?_; rintro e w1 ⟨rfl, rfl⟩) | (go_at_call 51; refine (Len_any _ _ _ _ hbl).mono ?_; rintro e w1 ⟨rfl, rfl⟩) | (go_at_call 39; refine (lower_any _ _ (by omega) (by omega)).mono ?_; rintro e w1 ⟨rfl, rfl⟩) | (go_at_call 34; refine (WriteByte_any w.heap.size _ [] _ _ hbl (by simp) hB (by omega) (by have := u8_lt (lowB c); simp; omega)).mono ?_))
                rintro e w2 ⟨rfl, hbl2, hfr2⟩
                simp only [Int.toNat_natCast, UInt8.ofNat_toNat] at hbl2
                clear hw
                have hB3 := hbl2.lt
                go_wp2_with fail
                go_roundw
                case rel =>
                  refine ⟨i + 1, [] ++ [lowB c], true, by omega, by go_num, hbl2, hb.trans (hfr2.below hB (by simp)), ?_, Lib.hid ⟨fun h => by omega, fun _ x hx => ?_⟩, ?_⟩
                  · first | omega | (simp; done) | (simp; omega)
                  · rw [show i + 1 - 1 = i from rfl, List.getElem?_eq_getElem h2, h3] at hx
                    injection hx with hx; subst hx; first | exact HW.out | rfl
                  · refine Lib.hid ?_
                    rw [Hr.out, ← HF'.out]; conv => rhs; unfold joinL
                    rw [if_pos HW.out, if_neg (by simp), if_pos ⟨rfl, rfl⟩]
                case measure => simp [intOf]; omega
              · have hl0 : ((acc.length : Int) == 0) = false := by
                  rw [beq_eq_false_iff_ne]; intro h; exact hacc0 (List.eq_nil_of_length_eq_zero (by omega))
                have HA := Lib.hid hacc0; clear hacc0
                go_wp2_with (first | (go_at_call 50; refine (word_any _ _ (by omega) (by omega)).mono ?_; rintro e w1 ⟨rfl, rfl⟩) | (go_at_call 51; refine (Len_any _ _ _ _ hbl).mono ?_; rintro e w1 ⟨rfl, rfl⟩) | (go_at_call 38; refine (upper_any _ _ (by omega) (by omega)).mono ?_; rintro e w1 ⟨rfl, rfl⟩) | (go_at_call 34; refine (WriteByte_any w.heap.size _ acc _ _ hbl (by omega) hB (by omega) (by have := u8_lt (upB c); simp; omega)).mono ?_))
                rintro e w2 ⟨rfl, hbl2, hfr2⟩
                simp only [Int.toNat_natCast, UInt8.ofNat_toNat] at hbl2
                clear hw
                have hB3 := hbl2.lt
                go_wp2_with fail
                go_roundw
                case rel =>
                  refine ⟨i + 1, acc ++ [upB c], true, by omega, by go_num, hbl2, hb.trans (hfr2.below hB (by simp)), ?_, Lib.hid ⟨fun h => by omega, fun _ x hx => ?_⟩, ?_⟩
                  · first | omega | (simp; done) | (simp; omega)
                  · rw [show i + 1 - 1 = i from rfl, List.getElem?_eq_getElem h2, h3] at hx
                    injection hx with hx; subst hx; first | exact HW.out | rfl
                  · refine Lib.hid ?_
                    rw [Hr.out, ← HF'.out]; conv => rhs; unfold joinL
                    rw [if_pos HW.out, if_neg (by simp), if_neg (fun h => HA.out h.2)]
                case measure => simp [intOf]; omega
      · have hw' : wordB c = false := by simpa using hw
        have HW := Lib.hid hw'
        have hbl2 := hbl
        have hfr2 : Fr w.heap.size [w.heap.size] [5] wr wr := Fr.refl _ _ _ _
        clear hw
        go_wp2_with (go_at_call 50; refine (word_any _ _ (by omega) (by omega)).mono ?_; rintro e w1 ⟨rfl, rfl⟩)
        go_roundw
        case rel =>
          refine ⟨i + 1, acc, false, by omega, by go_num, hbl2, hb, by omega, Lib.hid ⟨fun h => by omega, fun _ x hx => ?_⟩, ?_⟩
          · rw [show i + 1 - 1 = i from rfl, List.getElem?_eq_getElem h2, h3] at hx
            injection hx with hx; subst hx; exact HW.out
          · refine Lib.hid ?_
            rw [Hr.out, ← HF'.out]; conv => rhs; unfold joinL
            rw [if_neg (by rw [HW.out]; simp)]
        case measure => simp [intOf]; omega
end Go.Proofs.YtlomkfennnmkdaaDoor
