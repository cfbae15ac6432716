/- walks of the statements of chapter 15: awake, ShowTells -/
import Derived.Test.YtpggnfpjjppbmaaDoorS17
import Derived.Test.YtpggnfpjjppbmaaDoorS6
import Derived.Test.YtpggnfpjjppbmaaDoorOpenX
import Derived.Test.YtpggnfpjjppbmaaDoorShL
set_option maxRecDepth 100000
namespace Go.Proofs.YtpggnfpjjppbmaaDoor
open Go.RowKit
def rx2 (c : Str) : Rx := .mk 2 c false [] 0 0 false []
def rxA : Rx := .mk 1 [] false [] 0 0 false [rx2 [97], .mk 7 [] false [] 0 (-1) false [rx2 [47]]]
theorem rxA_tell : rxA.tell = [97, 124, 92, 47, 42] := by decide
theorem rxA_may : mayB rxA = true := by decide
def awW (w : World) : World := (w.alloc (.cells #[.int .i64 2, .string ⟨#[47]⟩, .bool false, .slice none 0 0, .int .i64 0, .int .i64 0, .bool false, .slice none 0 0] 25)).alloc
  (.cells #[.int .i64 2, .string ⟨#[97]⟩, .bool false, .slice none 0 0, .int .i64 0, .int .i64 0, .bool false, .slice none 0 0, .int .i64 7, .string ⟨#[]⟩, .bool false, .slice none 0 0, .int .i64 0, .int .i64 (-1), .bool false, .slice (some ⟨w.heap.size, 0, none⟩) 1 1] 25)
theorem awW_below (w : World) : Below w.heap.size w (awW w) := ((Below.refl _ _).alloc (Nat.le_refl _) _).alloc (by simp) _
theorem rx2_v (w : World) (c : Str) : RxV w Any [.int .i64 2, .string ⟨(c).toArray⟩, .bool false, .slice none 0 0, .int .i64 0, .int .i64 0, .bool false, .slice none 0 0] (rx2 c) :=
  RxV.close (rs := []) (ks := []) (SlS.none_ _ _ _ _) ⟨[], SlS.none_ _ _ _ _, .nil⟩
theorem awW_v (w : World) : RxV (awW w) Any [.int .i64 1, .string ⟨([]).toArray⟩, .bool false, .slice none 0 0, .int .i64 0, .int .i64 0, .bool false, .slice (some ⟨w.heap.size + 1, 0, none⟩) 2 2] rxA := by
  have h0 : (awW w).heap[w.heap.size]? = some (.cells #[.int .i64 2, .string ⟨#[47]⟩, .bool false, .slice none 0 0, .int .i64 0, .int .i64 0, .bool false, .slice none 0 0] 25 (0, 0)) := by
    unfold awW; rw [Below.heap_alloc _ _ _ (by simp)]; exact heap_alloc_new w _
  have h1 : (awW w).heap[w.heap.size + 1]? = some (.cells #[.int .i64 2, .string ⟨#[97]⟩, .bool false, .slice none 0 0, .int .i64 0, .int .i64 0, .bool false, .slice none 0 0, .int .i64 7, .string ⟨#[]⟩, .bool false, .slice none 0 0, .int .i64 0, .int .i64 (-1), .bool false, .slice (some ⟨w.heap.size, 0, none⟩) 1 1] 25 (0, 0)) := by
    unfold awW
    have := heap_alloc_new (w.alloc (.cells #[.int .i64 2, .string ⟨#[47]⟩, .bool false, .slice none 0 0, .int .i64 0, .int .i64 0, .bool false, .slice none 0 0] 25))
      (.cells #[.int .i64 2, .string ⟨#[97]⟩, .bool false, .slice none 0 0, .int .i64 0, .int .i64 0, .bool false, .slice none 0 0, .int .i64 7, .string ⟨#[]⟩, .bool false, .slice none 0 0, .int .i64 0, .int .i64 (-1), .bool false, .slice (some ⟨w.heap.size, 0, none⟩) 1 1] 25)
    simpa using this
  refine RxV.close (rs := []) (ks := [rx2 [97], .mk 7 [] false [] 0 (-1) false [rx2 [47]]]) (SlS.none_ _ _ _ _) ⟨[_, _], ?_, .cons (rx2_v _ [97]) (.cons (RxV.close (rs := []) (ks := [rx2 [47]]) (ka := some ⟨w.heap.size, 0, none⟩) (kc := 1) (ra := none) (rc := 0) (SlS.none_ _ _ _ _) ⟨[_], ?_, .cons (rx2_v _ [47]) .nil⟩) .nil)⟩
  · exact (Sl.lit (sz := 8) (n := 2) h1 rfl).slAny
  · exact (Sl.lit (sz := 8) (n := 1) h0 rfl).slAny
theorem rxA_small : rxA.small := by simp [rxA, rx2, Rx.small, Rx.small1, Rx.smallL]
theorem awake_any (w : World) (ht : Tab w) : Calls Tryd.prog 10 #[] w fun e w' => e = .returned (.bool true) ∧ Below w.heap.size w w' := by
  have hb := awW_below w
  have H := Lib.hid (Show_yes Any rxA _ _ (by decide) rxA_small (awW_v w) (ht.keep hb) rxA_may (by rw [rxA_tell]; decide))
  rw [rxA_tell] at H
  clear ht
  go_enter Tryd.func10, Tryd.ntmps10
  go_wp2_with (go_at_call 11; refine H.out.mono ?_; rintro e w1 ⟨rfl, hb1⟩)
  go_ret
  exact ⟨rfl, bel2 hb hb1⟩
set_option maxHeartbeats 4000000 in
theorem ShowTells_walk (x : Rx) (cc : List Value) (w : World) (ht : Tab w) (hv : RxV w Any cc x) (hm : x.mem) :
    Calls Tryd.prog 3 #[.agg cc.toArray] w fun e w' => e = .returned (.bool true) ∧ Below w.heap.size w w' := by
  obtain ⟨L, hL⟩ : ∃ L, x.left 120 = L := ⟨_, rfl⟩
  have HLB : Hid (∀ w', RxV w' Any cc x → Calls Tryd.prog 9 #[.agg cc.toArray, .int .i64 120] w' fun e w'' => e = .returned (.int .i64 L) ∧ Below w'.heap.size w' w'') := Lib.hid (fun w' h => by
    rw [← hL]; exact LawRx_any Any _ x (Nat.le_refl _) hm cc w' 120 h (by decide) (by decide))
  have HAW := Lib.hid awake_any
  have hX : 0 ≤ L → ∃ (s : Str) (n : Int), ∀ w', RxV w' Any cc x → Tab w' →
      (Calls Tryd.prog 11 #[.agg cc.toArray] w' fun e w'' => e = .returned (.tuple #[.string ⟨(s).toArray⟩, .int .i64 n]) ∧ Below w'.heap.size w' w'') ∧
      (Calls Tryd.prog 12 #[.agg cc.toArray] w' fun e w'' => e = .returned (.tuple #[.string ⟨(s).toArray⟩, .int .i64 n]) ∧ Below w'.heap.size w' w'') := by
    intro h0
    have h1 := left_eq _ x 120 (Nat.le_refl _) (by rw [hL]; exact h0)
    have hw : x.wt ≤ 120 := by omega
    have hp := parts_wt _ x (Nat.le_refl _)
    have hsm := small_wt _ x (Nat.le_refl _) (by omega)
    cases hmay : mayB x with
    | true =>
      have hwf : x.wf = true := by
        have h := hmay; simp only [mayB, okB, Bool.and_eq_true] at h; exact h.1.1
      have hl := tell_len _ x (Nat.le_refl _) hwf
      exact ⟨x.tell, 0, fun w' h t => ⟨Show_yes Any x cc w' (by omega) hsm h t hmay (by omega), RxRShow_yes Any x cc w' (by omega) hsm h hmay (by omega)⟩⟩
    | false => exact ⟨[], 10, fun w' h t => ⟨Show_no Any x cc w' (by omega) hsm h hmay, RxRShow_no Any x cc w' (by omega) hsm h hmay⟩⟩
  clear hL hm
  obtain ⟨k, c, ng, rs, lo, hi, lz, ks⟩ := x
  obtain ⟨ra, rc, ka, kc, rfl, hrs, hx⟩ := hv.open_
  obtain ⟨w0, hw0⟩ : ∃ w0, w0 = w.alloc (.cells #[.int .i64 k, .string ⟨(c).toArray⟩, .bool ng, .slice ra rs.length rc, .int .i64 lo, .int .i64 hi, .bool lz, .slice ka ks.length kc] 25) := ⟨_, rfl⟩
  have hb0 : Below w.heap.size w w0 := by rw [hw0]; exact (Below.refl _ _).alloc (Nat.le_refl _) _
  have hbx0 : w0.heap[w.heap.size]? = some (.cells #[.int .i64 k, .string ⟨(c).toArray⟩, .bool ng, .slice ra rs.length rc, .int .i64 lo, .int .i64 hi, .bool lz, .slice ka ks.length kc] 25 (0, 0)) := by rw [hw0]; exact heap_alloc_new w _
  have HV0 := Lib.hid (hv.later hb0)
  have HT := Lib.hid (ht.keep hb0)
  have HBX0 := Lib.hid hbx0
  have HX := Lib.hid hX
  have HL1 := Lib.hid (HLB.out _ (hv.later hb0))
  rw [hw0] at HL1
  have HW0 := Lib.hid hw0
  clear hv hrs hx ht hbx0 hw0 hX HLB
  unfold rxc at HV0 HX HL1 ⊢
  go_enter Tryd.func3, Tryd.ntmps3
  go_wp2_with (go_at_call 9; refine HL1.out.mono ?_)
  first | rintro e w1 rfl hb1 | rintro e w1 ⟨rfl, hb1⟩
  rw [← HW0.out] at hb1
  replace hb1 : Below w0.heap.size w0 w1 := hb1.mono (by rw [HW0.out]; simp)
  have hbw1 := bel2 hb0 hb1
  have HT1 := Lib.hid (HT.out.keep hb1)
  by_cases hneg : L < 0
  · clear hb1
    go_wp2_with (go_at_call 10; refine (HAW.out _ HT1.out).mono ?_; rintro e w2 ⟨rfl, hb2⟩)
    go_ret
    exact ⟨rfl, bel2 hbw1 hb2⟩
  · obtain ⟨s, n, hS⟩ := HX.out (by omega)
    have HS := Lib.hid hS
    have HV1 := Lib.hid (HV0.out.later hb1)
    have hbx1 := (hb1.block _ (heap_lt HBX0.out)).trans HBX0.out
    have HBX1 := Lib.hid hbx1
    obtain ⟨e0, e1, e2, e3, e4, e5, e6, e7, _⟩ := bx_cells hbx1
    have hge : decide (L < 0) = false := decide_eq_false hneg
    clear hb1 hS hbx1 HX hneg
    go_wp2_with (go_at_call 11; refine (HS.out _ HV1.out HT1.out).1.mono ?_)
    first | rintro e w2 rfl hb2 | rintro e w2 ⟨rfl, hb2⟩
    have hbw2 := bel2 hbw1 hb2
    have HT2 := Lib.hid (HT1.out.keep hb2)
    have HV2 := Lib.hid (HV1.out.later hb2)
    clear e0 e1 e2 e3 e4 e5 e6 e7
    obtain ⟨e0, e1, e2, e3, e4, e5, e6, e7, _⟩ := bx_cells ((hb2.block _ (heap_lt HBX1.out)).trans HBX1.out)
    clear hb2
    go_wp2_with (go_at_call 12; refine (HS.out _ HV2.out HT2.out).2.mono ?_)
    first | rintro e w3 rfl hb3 | rintro e w3 ⟨rfl, hb3⟩
    have hbw3 := bel2 hbw2 hb3
    have HT3 := Lib.hid (HT2.out.keep hb3)
    clear hb3
    go_wp2_with (go_at_call 10; refine (HAW.out _ HT3.out).mono ?_; rintro e w4 ⟨rfl, hb4⟩)
    go_ret
    exact ⟨rfl, bel2 hbw3 hb4⟩
end Go.Proofs.YtpggnfpjjppbmaaDoor
