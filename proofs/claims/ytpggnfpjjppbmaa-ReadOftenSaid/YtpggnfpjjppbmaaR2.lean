/- walk of rxset.May -/
import Derived.Test.YtpggnfpjjppbmaaR1
import Derived.Test.YtpggnfpjjppbmaaExt
set_option maxRecDepth 100000
namespace Go.Proofs.Ytpggnfpjjppbmaa
open Go.RowKit
theorem row_eq {f t : Str} {b : Bool} (w : World) (h : rowB (f, t) = b) (hf : f.length ≤ 100000000) (ht : t.length ≤ 100000000) :
    Calls Try.prog 37 #[.agg #[.string ⟨(f).toArray⟩, .string ⟨(t).toArray⟩]] w fun e w' => e = .returned (.bool b) ∧ Below w.heap.size w w' := by
  subst h
  exact row_any f t w hf ht
theorem row_kept {f t : Str} {b : Bool} (w : World) (h : rowB (f, t) = b) (hf : f.length ≤ 100000000) (ht : t.length ≤ 100000000) :
    Calls Try.prog 37 #[.agg #[.string ⟨(f).toArray⟩, .string ⟨(t).toArray⟩]] w fun e w' => e = .returned (.bool b) ∧ Below w.heap.size w w' ∧ ∀ a u, w.cell? a = some u → w'.cell? a = some u := by
  subst h
  exact (row_any f t w hf ht).mono fun _ _ ⟨h1, h2⟩ => ⟨h1, h2, cell_kept h2⟩
def MayRel (rs : List (Str × Str)) (R : Bool) (w : World) (q : Value) (wr : World) : Prop :=
  ∃ (k : Nat) (p : Option Str), k ≤ rs.length ∧ q = .int .i64 k ∧ Below w.heap.size w wr ∧ Hid ((k = 0 ∧ p = none) ∨ ∃ j r, k = j + 1 ∧ rs[j]? = some r ∧ p = some r.2) ∧ Hid (rowsL p (rs.drop k) = R)
set_option maxHeartbeats 1000000 in
theorem RowsMay_any (a : Option Addr) (n c : Nat) (rs : List (Str × Str)) (w : World) (h : Sl w w.heap.size a 2 n (rcells rs)) (hn : n ≤ 100000000) (hsz : ∀ r ∈ rs, r.1.length ≤ 100000000 ∧ r.2.length ≤ 100000000) :
    Calls Try.prog 66 #[.slice a n c] w fun e w' => e = .returned (.bool (rowsB rs)) ∧ Below w.heap.size w w' := by
  obtain rfl := h.row_len
  generalize hR : rowsB rs = R
  have HR := Lib.hid hR
  clear hR
  have HR0 : Hid (rowsL none (rs.drop 0) = R) := HR
  have HSl := Lib.hid h
  have HSz := Lib.hid hsz
  clear HR h hsz
  go_enter Try.func66, Try.ntmps66
  go_wp2
  go_loopw [7] (fun q wr => MayRel rs R w q wr) (fun q _ => rs.length - (intOf q).toNat)
  case atStart => exact ⟨0, none, by omega, rfl, Below.refl _ _, Lib.hid (.inl ⟨rfl, rfl⟩), HR0⟩
  case round =>
    obtain ⟨k, p, hk, rfl, hb, HP, HF⟩ := hrel
    clear HR0
    have hB := hb.size
    cases hd : rs.drop k with
    | nil =>
      have h2 : rs.length ≤ k := by simpa using hd
      have HE : Hid (R = true) := Lib.hid (by rw [← HF.out, hd]; rfl)
      clear hd HF
      go_wp2
      go_ret
      exact ⟨ret_bool HE.out.symm, hb⟩
    | cons r0 r =>
      obtain ⟨h2, h3, hr⟩ := ldrop_cons hd
      have HF' : Hid (rowsL p (r0 :: r) = R) := Lib.hid (by rw [← HF.out, hd])
      have Hr := Lib.hid hr
      obtain ⟨b, o, rfl, hbB, c0, c1⟩ := (HSl.out.keep hb).row h3
      obtain ⟨z1, z2⟩ := HSz.out r0 (List.mem_of_getElem? h3)
      have HE3 := Lib.hid h3
      obtain ⟨f, t⟩ := r0
      replace z1 : f.length ≤ 100000000 := z1
      replace z2 : t.length ≤ 100000000 := z2
      clear hd HF hr h3
      have e0 : ∀ x : ExtOf (wr.alloc (.cells #[.string ⟨(f).toArray⟩, .string ⟨(t).toArray⟩] 44)), x.val.cell? ⟨wr.heap.size, 0, none⟩ = some (.string ⟨(f).toArray⟩) := ExtOf.cell (by simp)
      have e1 : ∀ x : ExtOf (wr.alloc (.cells #[.string ⟨(f).toArray⟩, .string ⟨(t).toArray⟩] 44)), x.val.cell? ⟨wr.heap.size, 1, none⟩ = some (.string ⟨(t).toArray⟩) := ExtOf.cell (by simp)
      cases hB1 : rowB (f, t) with
      | false =>
        have HB := Lib.hid hB1
        have HE : Hid (R = false) := Lib.hid (by rw [← HF'.out]; simp only [rowsL]; rw [HB.out]; rfl)
        clear hB1
        go_wp2
        refine wp_region_ext (by kernel_rfl) (by kernel_rfl) ?_
        repeat (go_big_quiet_step (((go_at_call 37; exact ext_call (row_eq _ HB.out (by omega) (by omega))))))
        refine wpQuiet_nil ?_
        rintro _ ⟨xq, rfl⟩
        go_wp2
        go_ret
        exact ⟨ret_bool HE.out.symm, (hb.alloc hB _).trans (xq.ext.mono (by simp; omega))⟩
      | true =>
        have HB := Lib.hid hB1
        clear hB1
        rcases HP.out with ⟨hk0, hp0⟩ | ⟨j, r', hkj, hj, hpj⟩
        · have hk0' : decide (0 < k) = false := by rw [decide_eq_false_iff_not]; omega
          have HL : Hid (p = none) := Lib.hid hp0
          clear hk0 hp0
          go_wp2
          refine wp_region_ext (by kernel_rfl) (by kernel_rfl) ?_
          repeat (go_big_quiet_step (((go_at_call 37; exact ext_call (row_eq _ HB.out (by omega) (by omega))))))
          refine wpQuiet_nil ?_
          rintro _ ⟨xq, rfl⟩
          go_wp2
          go_roundw
          case rel => exact ⟨k + 1, some t, by omega, by go_num, (hb.alloc hB _).trans (xq.ext.mono (by simp; omega)), Lib.hid (.inr ⟨k, (f, t), rfl, HE3.out, rfl⟩), Lib.hid (by rw [Hr.out, ← HF'.out]; simp only [rowsL]; rw [HB.out]; simp [HL.out])⟩
          case measure => simp [intOf]; omega
        · obtain ⟨b', o', hab, _, d0, d1⟩ := (HSl.out.keep hb).row hj
          obtain ⟨rfl, rfl⟩ : b = b' ∧ o = o' := by simpa using hab
          obtain ⟨f', t'⟩ := r'
          have HPJ := Lib.hid hpj
          subst hkj
          clear hj hpj hab
          have d2 : ∀ x : ExtOf (wr.alloc (.cells #[.string ⟨(f).toArray⟩, .string ⟨(t).toArray⟩] 44)), x.val.cell? ⟨b, o + j * 2 + 1, none⟩ = some (.string ⟨(t').toArray⟩) := ExtOf.cell (by rw [World.cell?_alloc_lt _ _ _ (by simp; omega)]; exact d1)
          have d1' : (wr.alloc (.cells #[.string ⟨(f).toArray⟩, .string ⟨(t).toArray⟩] 44)).cell? ⟨b, o + j * 2 + 1, none⟩ = some (.string ⟨(t').toArray⟩) := by
            rw [World.cell?_alloc_lt _ _ _ (by simp; omega)]; exact d1
          go_wp2
          refine wp_region_ext (by kernel_rfl) (by kernel_rfl) ?_
          repeat (go_big_quiet_step (((go_at_call 37; exact ext_call (row_eq _ HB.out (by omega) (by omega))))))
          refine wpQuiet_nil ?_
          rintro _ ⟨xq, rfl⟩
          cases hL1 : leS f t' with
          | true =>
            have HE : Hid (R = false) := Lib.hid (by rw [← HF'.out, HPJ.out]; simp only [rowsL]; rw [HB.out, hL1]; rfl)
            go_wp2
            go_ret
            exact ⟨ret_bool HE.out.symm, (hb.alloc hB _).trans (xq.ext.mono (by simp; omega))⟩
          | false =>
            have HL := Lib.hid hL1
            go_wp2
            go_roundw
            case rel => exact ⟨j + 1 + 1, some t, by omega, by go_num, (hb.alloc hB _).trans (xq.ext.mono (by simp; omega)), Lib.hid (.inr ⟨j + 1, (f, t), rfl, HE3.out, rfl⟩), Lib.hid (by rw [Hr.out, ← HF'.out, HPJ.out]; simp only [rowsL]; rw [HB.out, HL.out]; rfl)⟩
            case measure => simp [intOf]; omega
end Go.Proofs.Ytpggnfpjjppbmaa
