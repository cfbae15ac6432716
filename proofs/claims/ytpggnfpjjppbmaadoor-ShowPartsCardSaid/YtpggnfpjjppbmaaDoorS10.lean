/- walks of the references: ref12.May; ref13.bare, repeat -/
import Derived.Test.YtpggnfpjjppbmaaDoorS8
import Derived.Test.YtpggnfpjjppbmaaDoorR6
set_option maxRecDepth 100000
namespace Go.Proofs.YtpggnfpjjppbmaaDoor
open Go.RowKit
theorem RProper_eq {l : Str} {b : Bool} (w : World) (h : properB l = b) (hl : l.length ≤ 1000000) :
    Calls Tryd.prog 17 #[.string ⟨(l).toArray⟩] w fun e w' => e = .returned (.bool b) ∧ Below w.heap.size w w' := by
  subst h; exact RProper_any l w hl
set_option maxHeartbeats 2000000 in
theorem RRowsMay_any (a : Option Addr) (n c : Nat) (rs : List (Str × Str)) (w : World) (h : Sl w w.heap.size a 2 n (rcells rs)) (hn : n ≤ 1000000) (hsz : ∀ r ∈ rs, r.1.length ≤ 1000000 ∧ r.2.length ≤ 1000000) :
    Calls Tryd.prog 56 #[.slice a n c] w fun e w' => e = .returned (.bool (rowsB rs)) ∧ Below w.heap.size w w' := by
  obtain rfl := h.row_len
  generalize hR : rowsB rs = R
  have HR := Lib.hid hR
  clear hR
  have HR0 : Hid (rowsL none (rs.drop 0) = R) := HR
  have HSl := Lib.hid h
  have HSz := Lib.hid hsz
  clear HR h hsz
  go_enter Tryd.func56, Tryd.ntmps56
  go_wp2
  go_loopw [3] (fun q wr => MayRel rs R w q wr) (fun q _ => rs.length - (intOf q).toNat)
  case atStart => exact ⟨0, none, by omega, rfl, Below.refl _ _, Lib.hid (.inl ⟨rfl, rfl⟩), HR0⟩
  case round =>
    obtain ⟨k, p, hk, rfl, hb, HP, HF⟩ := hrel
    clear HR0
    have hB := hb.size
    cases hd : rs.drop k with
    | nil =>
      have h2 : rs.length ≤ k := by simpa using hd
      have HE : Hid (R = true) := Lib.hid (by rw [← HF.out, hd]; rfl)
      clear hd HF
      go_wp2
      go_ret
      exact ⟨ret_bool HE.out.symm, hb⟩
    | cons r0 r =>
      obtain ⟨h2, h3, hr⟩ := ldrop_cons hd
      have HF' : Hid (rowsL p (r0 :: r) = R) := Lib.hid (by rw [← HF.out, hd])
      have Hr := Lib.hid hr
      obtain ⟨b, o, rfl, hbB, c0, c1⟩ := (HSl.out.keep hb).row h3
      obtain ⟨z1, z2⟩ := HSz.out r0 (List.mem_of_getElem? h3)
      have HE3 := Lib.hid h3
      obtain ⟨f, t⟩ := r0
      replace z1 : f.length ≤ 1000000 := z1
      replace z2 : t.length ≤ 1000000 := z2
      clear hd HF hr h3
      have e0 : ∀ x : ExtOf (wr.alloc (.cells #[.string ⟨(f).toArray⟩, .string ⟨(t).toArray⟩] 42)), x.val.cell? ⟨wr.heap.size, 0, none⟩ = some (.string ⟨(f).toArray⟩) := ExtOf.cell (by simp)
      have e1 : ∀ x : ExtOf (wr.alloc (.cells #[.string ⟨(f).toArray⟩, .string ⟨(t).toArray⟩] 42)), x.val.cell? ⟨wr.heap.size, 1, none⟩ = some (.string ⟨(t).toArray⟩) := ExtOf.cell (by simp)
      obtain ⟨pf, hpf⟩ : ∃ b, properB f = b := ⟨_, rfl⟩
      obtain ⟨pt, hpt⟩ : ∃ b, properB t = b := ⟨_, rfl⟩
      have HP1 := Lib.hid hpf
      have HP2 := Lib.hid hpt
      clear hpf hpt
      cases pf with
      | false =>
        have HE : Hid (R = false) := Lib.hid (by rw [← HF'.out]; simp only [rowsL]; rw [show rowB (f, t) = false from by simp [rowB, HP1.out]]; rfl)
        go_wp2
        refine wp_region_ext (by kernel_rfl) (by kernel_rfl) ?_
        repeat (go_big_quiet_step (((go_at_call 17; first | exact ext_call (RProper_eq _ HP1.out (by omega)) | exact ext_call (RProper_eq _ HP2.out (by omega))))))
        refine wpQuiet_nil ?_
        rintro _ ⟨xq, rfl⟩
        go_wp2
        go_ret
        exact ⟨ret_bool HE.out.symm, (hb.alloc hB _).trans (xq.ext.mono (by simp; omega))⟩
      | true =>
        cases pt with
        | false =>
          have HE : Hid (R = false) := Lib.hid (by rw [← HF'.out]; simp only [rowsL]; rw [show rowB (f, t) = false from by simp [rowB, HP2.out]]; rfl)
          go_wp2
          refine wp_region_ext (by kernel_rfl) (by kernel_rfl) ?_
          repeat (go_big_quiet_step (((go_at_call 17; first | exact ext_call (RProper_eq _ HP1.out (by omega)) | exact ext_call (RProper_eq _ HP2.out (by omega))))))
          refine wpQuiet_nil ?_
          rintro _ ⟨xq, rfl⟩
          go_wp2
          go_ret
          exact ⟨ret_bool HE.out.symm, (hb.alloc hB _).trans (xq.ext.mono (by simp; omega))⟩
        | true =>
          cases hle : leS f t with
          | false =>
            have HE : Hid (R = false) := Lib.hid (by rw [← HF'.out]; simp only [rowsL]; rw [show rowB (f, t) = false from by simp [rowB, hle]]; rfl)
            go_wp2
            refine wp_region_ext (by kernel_rfl) (by kernel_rfl) ?_
            repeat (go_big_quiet_step (((go_at_call 17; first | exact ext_call (RProper_eq _ HP1.out (by omega)) | exact ext_call (RProper_eq _ HP2.out (by omega))))))
            refine wpQuiet_nil ?_
            rintro _ ⟨xq, rfl⟩
            go_wp2
            go_ret
            exact ⟨ret_bool HE.out.symm, (hb.alloc hB _).trans (xq.ext.mono (by simp; omega))⟩
          | true =>
            have HB : Hid (rowB (f, t) = true) := Lib.hid (by simp [rowB, HP1.out, HP2.out, hle])
            rcases HP.out with ⟨hk0, hp0⟩ | ⟨j, r', hkj, hj, hpj⟩
            · have hk0' : decide (0 < k) = false := by rw [decide_eq_false_iff_not]; omega
              have HL : Hid (p = none) := Lib.hid hp0
              clear hk0 hp0
              go_wp2
              refine wp_region_ext (by kernel_rfl) (by kernel_rfl) ?_
              repeat (go_big_quiet_step (((go_at_call 17; first | exact ext_call (RProper_eq _ HP1.out (by omega)) | exact ext_call (RProper_eq _ HP2.out (by omega))))))
              refine wpQuiet_nil ?_
              rintro _ ⟨xq, rfl⟩
              go_wp2
              go_roundw
              case rel => exact ⟨k + 1, some t, by omega, by go_num, (hb.alloc hB _).trans (xq.ext.mono (by simp; omega)), Lib.hid (.inr ⟨k, (f, t), rfl, HE3.out, rfl⟩), Lib.hid (by rw [Hr.out, ← HF'.out]; simp only [rowsL]; rw [HB.out]; simp [HL.out])⟩
              case measure => simp [intOf]; omega
            · obtain ⟨b', o', hab, _, d0, d1⟩ := (HSl.out.keep hb).row hj
              obtain ⟨rfl, rfl⟩ : b = b' ∧ o = o' := by simpa using hab
              obtain ⟨f', t'⟩ := r'
              have HPJ := Lib.hid hpj
              subst hkj
              clear hj hpj hab
              have d2 : ∀ x : ExtOf (wr.alloc (.cells #[.string ⟨(f).toArray⟩, .string ⟨(t).toArray⟩] 42)), x.val.cell? ⟨b, o + j * 2 + 1, none⟩ = some (.string ⟨(t').toArray⟩) := ExtOf.cell (by rw [World.cell?_alloc_lt _ _ _ (by simp; omega)]; exact d1)
              go_wp2
              refine wp_region_ext (by kernel_rfl) (by kernel_rfl) ?_
              repeat (go_big_quiet_step (((go_at_call 17; first | exact ext_call (RProper_eq _ HP1.out (by omega)) | exact ext_call (RProper_eq _ HP2.out (by omega))))))
              refine wpQuiet_nil ?_
              rintro _ ⟨xq, rfl⟩
              cases hL1 : leS f t' with
              | true =>
                have HE : Hid (R = false) := Lib.hid (by rw [← HF'.out, HPJ.out]; simp only [rowsL]; rw [HB.out, hL1]; rfl)
                go_wp2
                go_ret
                exact ⟨ret_bool HE.out.symm, (hb.alloc hB _).trans (xq.ext.mono (by simp; omega))⟩
              | false =>
                have HL := Lib.hid hL1
                go_wp2
                go_roundw
                case rel => exact ⟨j + 1 + 1, some t, by omega, by go_num, (hb.alloc hB _).trans (xq.ext.mono (by simp; omega)), Lib.hid (.inr ⟨j + 1, (f, t), rfl, HE3.out, rfl⟩), Lib.hid (by rw [Hr.out, ← HF'.out, HPJ.out]; simp only [rowsL]; rw [HB.out, HL.out]; rfl)⟩
                case measure => simp [intOf]; omega
end Go.Proofs.YtpggnfpjjppbmaaDoor
