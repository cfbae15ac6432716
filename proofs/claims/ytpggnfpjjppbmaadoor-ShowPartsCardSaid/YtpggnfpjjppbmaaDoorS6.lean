/- walk of rxshow.Show; the statements' measure of a tree -/
import Derived.Test.YtpggnfpjjppbmaaDoorS5
set_option maxRecDepth 100000
namespace Go.Proofs.YtpggnfpjjppbmaaDoor
open Go.RowKit
set_option maxHeartbeats 1000000 in
theorem Show_yes (S : Nat → Prop) (x : Rx) (cc : List Value) (w : World) (hm : x.parts ≤ 1000000) (hsm : x.small) (hv : RxV w S cc x) (ht : Tab w) (hmay : mayB x = true) (hlen : x.tell.length ≤ 10000000) :
    Calls Tryd.prog 11 #[.agg cc.toArray] w fun e w' => e = .returned (.tuple #[.string ⟨(x.tell).toArray⟩, .int .i64 0]) ∧ Below w.heap.size w w' := by
  have hwf : x.wf = true := by
    have h := hmay; simp only [mayB, okB, Bool.and_eq_true] at h; exact h.1.1
  obtain ⟨k, c, ng, rs, lo, hi, lz, ks⟩ := x
  obtain ⟨ra, rc, ka, kc, rfl, hrs, hx⟩ := hv.open_
  obtain ⟨w0, hw0⟩ : ∃ w0, w0 = w.alloc (.cells #[.int .i64 k, .string ⟨(c).toArray⟩, .bool ng, .slice ra rs.length rc, .int .i64 lo, .int .i64 hi, .bool lz, .slice ka ks.length kc] 25) := ⟨_, rfl⟩
  have hb0 : Below w.heap.size w w0 := by rw [hw0]; exact (Below.refl _ _).alloc (Nat.le_refl _) _
  have hbx0 : w0.heap[w.heap.size]? = some (.cells #[.int .i64 k, .string ⟨(c).toArray⟩, .bool ng, .slice ra rs.length rc, .int .i64 lo, .int .i64 hi, .bool lz, .slice ka ks.length kc] 25 (0, 0)) := by rw [hw0]; exact heap_alloc_new w _
  have HV0 := Lib.hid (hv.later hb0).any
  have HTB := Lib.hid (ht.keep hb0)
  have HSM := Lib.hid hsm
  have HMAY := Lib.hid hmay
  have HWF := Lib.hid hwf
  have HBX0 := Lib.hid hbx0
  have HLEN := Lib.hid hlen
  have HM := Lib.hid hm
  rw [hw0] at HV0
  have HW0 := Lib.hid hw0
  clear hv hrs hx hsm hmay hwf ht hbx0 hw0 hlen hm
  unfold rxc at HV0 ⊢
  go_enter Tryd.func11, Tryd.ntmps11
  go_wp2_with (go_at_call 13; refine (RxMay_any Any _ _ _ HM.out HSM.out HV0.out).mono ?_)
  first | rintro e w1 rfl hb1 | rintro e w1 ⟨rfl, hb1⟩
  rw [HMAY.out]
  have hb1' : Below w0.heap.size w0 w1 := by rw [HW0.out]; exact hb1.mono (by simp)
  have HV1 := Lib.hid ((show RxV w0 Any _ _ by rw [HW0.out]; exact HV0.out).later hb1')
  have HTB1 := Lib.hid (HTB.out.keep hb1')
  have hbx1 := (hb1'.block _ (heap_lt HBX0.out)).trans HBX0.out
  have hbw1 : Below w.heap.size w w1 := hb0.trans (hb1'.mono hb0.size)
  have hz1 := hbw1.size
  have hl1 := heap_lt hbx1
  have e0 : w1.cell? ⟨w.heap.size, 0, none⟩ = some (.int .i64 k) := by rw [Lib.cell_of_heap hbx1]; rfl
  have e1 : w1.cell? ⟨w.heap.size, 1, none⟩ = some (.string ⟨(c).toArray⟩) := by rw [Lib.cell_of_heap hbx1]; rfl
  have e2 : w1.cell? ⟨w.heap.size, 2, none⟩ = some (.bool ng) := by rw [Lib.cell_of_heap hbx1]; rfl
  have e3 : w1.cell? ⟨w.heap.size, 3, none⟩ = some (.slice ra rs.length rc) := by rw [Lib.cell_of_heap hbx1]; rfl
  have e4 : w1.cell? ⟨w.heap.size, 4, none⟩ = some (.int .i64 lo) := by rw [Lib.cell_of_heap hbx1]; rfl
  have e5 : w1.cell? ⟨w.heap.size, 5, none⟩ = some (.int .i64 hi) := by rw [Lib.cell_of_heap hbx1]; rfl
  have e6 : w1.cell? ⟨w.heap.size, 6, none⟩ = some (.bool lz) := by rw [Lib.cell_of_heap hbx1]; rfl
  have e7 : w1.cell? ⟨w.heap.size, 7, none⟩ = some (.slice ka ks.length kc) := by rw [Lib.cell_of_heap hbx1]; rfl
  have HV2 := Lib.hid ((HV1.out.mono (S' := (· < w1.heap.size)) (fun _ _ h => h)).later ((Below.refl _ _).alloc (Nat.le_refl _) (.cells #[.pointer none, .slice none 0 0] 46)))
  have HTB2 := Lib.hid (HTB1.out.keep ((Below.refl _ _).alloc (Nat.le_refl _) (.cells #[.pointer none, .slice none 0 0] 46)))
  have hgT := HTB1.out.lt
  clear hb1 hbx1
  go_wp2_with (go_at_call 22; refine ((show_any w1.heap.size w1.heap.size hgT _ _ (Nat.le_refl _) HSM.out HWF.out).at_ (acc := []) HV2.out (Bld.fresh _ _ (Nat.le_refl _)) (by simp) HTB2.out (List.nil_append _) HLEN.out).mono ?_)
  first | rintro e w2 rfl hbl2 hfr2 | rintro e w2 ⟨rfl, hbl2, hfr2⟩
  have hB2 : w1.heap.size ≤ w2.heap.size := by have := hfr2.size; simp at this; omega
  have hbw2 : Below w1.heap.size w1 w2 := ((Below.refl _ _).alloc (Nat.le_refl _) _).trans (hfr2.below (by simp) (by simp))
  go_wp2_with (go_at_call 23; refine (String_any _ _ _ _ hbl2 hB2).mono ?_; rintro e w3 ⟨rfl, hb3⟩)
  go_ret2
  exact ⟨rfl, hbw1.trans ((hbw2.trans hb3).mono hz1)⟩
set_option maxHeartbeats 1000000 in
theorem Show_no (S : Nat → Prop) (x : Rx) (cc : List Value) (w : World) (hm : x.parts ≤ 1000000) (hsm : x.small) (hv : RxV w S cc x) (hmay : mayB x = false) :
    Calls Tryd.prog 11 #[.agg cc.toArray] w fun e w' => e = .returned (.tuple #[.string ⟨([]).toArray⟩, .int .i64 10]) ∧ Below w.heap.size w w' := by
  obtain ⟨k, c, ng, rs, lo, hi, lz, ks⟩ := x
  obtain ⟨ra, rc, ka, kc, rfl, hrs, hx⟩ := hv.open_
  have HV0 := Lib.hid (hv.later ((Below.refl w.heap.size w).alloc (Nat.le_refl _) (.cells #[.int .i64 k, .string ⟨(c).toArray⟩, .bool ng, .slice ra rs.length rc, .int .i64 lo, .int .i64 hi, .bool lz, .slice ka ks.length kc] 25)))
  have HSM := Lib.hid hsm
  have HMAY := Lib.hid hmay
  have HM := Lib.hid hm
  clear hv hrs hx hsm hmay hm
  unfold rxc at HV0 ⊢
  go_enter Tryd.func11, Tryd.ntmps11
  go_wp2_with (go_at_call 13; refine (RxMay_any S _ _ _ HM.out HSM.out HV0.out).mono ?_; rintro e w1 ⟨rfl, hb1⟩; rw [HMAY.out])
  go_ret2
  exact ⟨rfl, ((Below.refl _ _).alloc (Nat.le_refl _) _).trans (hb1.mono (by simp))⟩
end Go.Proofs.YtpggnfpjjppbmaaDoor
