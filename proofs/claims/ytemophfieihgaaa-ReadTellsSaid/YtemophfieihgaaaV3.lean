/- walk of rxset.Union -/
import Derived.Test.YtemophfieihgaaaV2
set_option maxRecDepth 100000
namespace Go.Proofs.Ytemophfieihgaaa
open Go.RowKit
def SortC : Prop := ∀ (B g cap N : Nat) (rs : List Row) (w : World), RO w B g cap rs → rs.length = N → N ≤ 1000000 →
    Calls Try.prog 57 #[.slice (some ⟨g, 0, none⟩) N cap, .func (.func 58) #[] #[]] w fun e w' => e = .returned (.tuple #[]) ∧ RO w' B g cap (stL rs) ∧ w.grownBy w' (some g)
set_option maxHeartbeats 1000000 in
theorem Union_any (hst : SortC) (a : Option Addr) (n c : Nat) (rs : List Row) (w : World) (h : Sl w w.heap.size a 2 n (rcells rs)) (hn : n ≤ 1000000) (hlen : ∀ r ∈ rs, r.1.length ≤ 100000000 ∧ r.2.length ≤ 100000000) :
    Calls Try.prog 46 #[.slice a n c] w fun e w' => ∃ a' c', e = .returned (.slice a' (unionM rs).length c') ∧ SlS w' (fun b => w.heap.size ≤ b) a' 2 (unionM rs).length (rcells (unionM rs)) ∧ Below w.heap.size w w' := by
  obtain rfl := h.row_len
  obtain ⟨ir, hir⟩ := info_parts row_info
  obtain ⟨us, hus⟩ : ∃ us, unionM rs = us := ⟨_, rfl⟩
  rw [hus]
  have HUS0 := Lib.hid hus
  clear hus
  have HS := Lib.hid h
  have HLEN := Lib.hid hlen
  have HST := Lib.hid hst
  clear h hlen hst
  go_enter Try.func46, Try.ntmps46
  go_wp2
  go_loopw [3, 12] (fun v q wr => U1Rel rs w v q wr) (fun _ q _ => rs.length - (intOf q).toNat)
  case atStart => exact ⟨0, by omega, rfl, Below.refl _ _, by rw [List.take_zero]; exact World.ownsRow_nil _ _ _ _⟩
  case round =>
    obtain ⟨i, hil, rfl, hb, hown⟩ := hrel
    have hB := hb.size
    cases hi : rs[i]? with
    | none =>
      have h2 : rs.length ≤ i := by simpa using hi
      obtain rfl : i = rs.length := by omega
      rw [List.take_length] at hown
      obtain ⟨fl, hFL⟩ : ∃ fl, filR rs = fl := ⟨_, rfl⟩
      have hfl : fl.length ≤ rs.length := by rw [← hFL]; exact filR_len rs
      rw [hFL] at hown
      obtain ⟨ss, hss⟩ : ∃ ss, stL fl = ss := ⟨_, rfl⟩
      have hsl : ss.length = fl.length := by rw [← hss]; exact stL_len fl
      have HUS : Hid (mrgL ss = us) := Lib.hid (by rw [← HUS0.out, unionM, hFL, hss])
      -- the sort
      have hsort : ∃ (va : Option Addr) (vc : Nat), u3 = .slice va fl.length vc ∧ Calls Try.prog 57 #[.slice va fl.length vc, .func (.func 58) #[] #[]] wr fun e w' => e = .returned (.tuple #[]) ∧ Below w.heap.size w w' ∧ SlS w' (fun b => b < w'.heap.size) va 2 ss.length (rcells ss) := by
        rcases hown.2 with ⟨rfl, hn0⟩ | ⟨g, cap, cur, rfl, _, _, _, _, _, _⟩
        · have h0 : fl = [] := List.eq_nil_of_length_eq_zero hn0
          subst h0
          have hs0 : ss = [] := List.eq_nil_of_length_eq_zero (by simpa using hsl)
          subst hs0
          refine ⟨none, 0, rfl, (SortStable_nil wr).mono ?_⟩
          rintro e w2 ⟨rfl, rfl⟩
          exact ⟨rfl, hb, SlS.none_ _ _ _ _⟩
        · refine ⟨_, _, rfl, (HST.out w.heap.size g cap fl.length fl wr hown rfl (by omega)).mono ?_⟩
          rintro e w2 ⟨rfl, hro2, hg2⟩
          rw [hss] at hro2
          exact ⟨rfl, (hb.trans ((Below.refl w.heap.size wr).grown hg2 hB fun k hk => (hown.lt k hk).1)), (own_slS hro2).mono fun b _ h => h⟩
      obtain ⟨va, vc, rfl, hrun⟩ := hsort
      have HRUN := Lib.hid hrun
      clear hrun hown hi hss HST HUS0 HS HLEN hFL
      go_wp2_with (go_at_call 57; refine HRUN.out.mono ?_)
      rintro e ws ⟨rfl, hbs, hsls⟩
      have HSL := Lib.hid hsls
      clear HRUN hsls hb hB hil h2
      go_wp2
      go_loopw [6, 27] (fun v q wr => U2Rel ss va w v q wr) (fun _ q _ => ss.length - (intOf q).toNat)
      case atStart => exact ⟨0, by omega, rfl, hbs, by rw [List.take_zero]; exact World.ownsRow_nil _ _ _ _, HSL.out.mono fun b _ _ => by simp [Value.ownBlock]⟩
      case round =>
        obtain ⟨i, hil, rfl, hb, hown, hsl2⟩ := hrel
        have hB := hb.size
        cases hi : ss[i]? with
        | none =>
          have h2 : ss.length ≤ i := by simpa using hi
          obtain rfl : i = ss.length := by omega
          rw [List.take_length, HUS.out] at hown
          obtain ⟨xa, xc, rfl⟩ := own_form hown
          have HOWN := Lib.hid hown
          clear hown hsl2 HSL
          go_wp2
          go_ret
          exact ⟨xa, xc, rfl, own_slS HOWN.out, hb⟩
        | some r =>
          have hi2 := (List.getElem?_eq_some_iff.1 hi).1
          have hMT := mrgL_take hi
          have hml := mrgL_len (ss.take i)
          rw [List.length_take] at hml
          obtain ⟨b, o, rfl, hbB, c0, c1⟩ := hsl2.sl.row hi
          obtain ⟨rf, rt⟩ := r
          generalize hML : mrgL (ss.take i) = ml at *
          have hb0 : Below wr.heap.size wr (wr.alloc (.cells #[.string ⟨(rf).toArray⟩, .string ⟨(rt).toArray⟩] 47)) := (Below.refl _ _).alloc (Nat.le_refl _) _
          have ho1 := own_below hown hb0
          have hs1 := hsl2.keep (Kept.all hb0)
          have hbw1 := hb.trans (hb0.mono hB)
          have hbx := heap_alloc_new wr (.cells #[.string ⟨(rf).toArray⟩, .string ⟨(rt).toArray⟩] 47)
          have e0 : (wr.alloc (.cells #[.string ⟨(rf).toArray⟩, .string ⟨(rt).toArray⟩] 47)).cell? ⟨wr.heap.size, 0, none⟩ = some (.string ⟨(rf).toArray⟩) := by unfold World.cell?; rw [hbx]; rfl
          have e1 : (wr.alloc (.cells #[.string ⟨(rf).toArray⟩, .string ⟨(rt).toArray⟩] 47)).cell? ⟨wr.heap.size, 1, none⟩ = some (.string ⟨(rt).toArray⟩) := by unfold World.cell?; rw [hbx]; rfl
          have HO1 := Lib.hid ho1
          have HS1 := Lib.hid hs1
          have HMT := Lib.hid hMT
          clear hMT hML hb0 hi hbx hs1
          rcases snoc_cases ml with rfl | ⟨B, q, rfl⟩
          · have hv : u6 = .slice none 0 0 ∨ True := .inr trivial
            obtain ⟨xa, xc, rfl⟩ := own_form hown
            clear ho1 hown hv
            simp only [List.length_nil] at *
            have hgd : decide ((-1 : Int) ≥ 0) = false := rfl
            have hgd2 : decide ((0 : Int) ≤ -1) = false := rfl
            go_wp2
            go_quiet (fail)
            obtain ⟨w1, hw1⟩ : ∃ w1, w1 = (wr.alloc (.cells #[.string ⟨(rf).toArray⟩, .string ⟨(rt).toArray⟩] 47)).drewN nq := ⟨_, rfl⟩
            rw [← hw1]
            have hbq : Below (wr.alloc (.cells #[.string ⟨(rf).toArray⟩, .string ⟨(rt).toArray⟩] 47)).heap.size (wr.alloc (.cells #[.string ⟨(rf).toArray⟩, .string ⟨(rt).toArray⟩] 47)) w1 := by rw [hw1]; exact below_drewN (Below.refl _ _) _
            have ho2 := own_below HO1.out hbq
            have hs2 := HS1.out.keep (Kept.all hbq)
            have hz1 := hbq.size
            rw [World.size_alloc] at hz1
            have hbw1 := hbw1.trans (hbq.mono (by rw [World.size_alloc]; omega))
            have f0 := cell_kept hbq _ _ e0
            have f1 := cell_kept hbq _ _ e1
            clear e0 e1 hw1
            have hb3 : Below w1.heap.size w1 (w1.alloc (.cells #[.string ⟨(rf).toArray⟩, .string ⟨(rt).toArray⟩] 47)) := (Below.refl _ _).alloc (Nat.le_refl _) _
            have HO3 := Lib.hid (own_below ho2 hb3)
            have HS3 := Lib.hid (hs2.keep (Kept.all hb3))
            have HLIT := Lib.hid (Sl.lit (n := 1) (sz := 2) (heap_alloc_new w1 (.cells #[.string ⟨(rf).toArray⟩, .string ⟨(rt).toArray⟩] 47)) rfl)
            have hz3 : w.heap.size ≤ (w1.alloc (.cells #[.string ⟨(rf).toArray⟩, .string ⟨(rt).toArray⟩] 47)).heap.size := by simp only [World.size_alloc]; omega
            have hbw3 := hbw1.alloc (by omega) (.cells #[.string ⟨(rf).toArray⟩, .string ⟨(rt).toArray⟩] 47)
            clear ho2 hs2
            go_wp2_with (at_builtin; refine wpList_appM w.heap.size 47 rfl _ _ 23 rfl Try.underlying23 hir rfl (by decide) rfl HO3.out rfl HLIT.out (rcells_one [(rf, rt)]) (by omega) (by omega) (by decide) hz3 ?_)
            intro v1 w4 ho4 hg4 hb4 hmv
            have hs4 := src_app HS3.out hg4 hmv
            have hb4' := hbw3.trans hb4
            have ho5 : w4.ownsRow w.heap.size 47 2 v1 (mrgL (ss.take (i + 1))).length (rcells (mrgL (ss.take (i + 1)))) := by
              rw [HMT.out, mrgS_nil]; exact ho4
            clear ho4 hg4 hmv
            go_wp2
            go_roundw
            case rel => exact ⟨i + 1, by omega, by go_num, hb4', ho5, hs4⟩
            case measure => simp [intOf]; omega
          · rw [List.length_append, List.length_singleton] at hml
            have hnl : (B ++ [q]).length = B.length + 1 := by simp
            rw [hnl] at hown ho1 HO1
            rcases hown.2 with ⟨rfl, hn0⟩ | ⟨g, cap, cur, rfl, _, _, _, _, _, _⟩
            · exact absurd hn0 (by omega)
            obtain ⟨q1, q2⟩ := q
            obtain ⟨d0, d1, hfr⟩ := own_at ho1
            have hgw := (ho1.lt g rfl)
            cases hle : leS rf q2 with
            | true =>
              have hgd : decide ((0 : Int) ≤ B.length) = true := by simp
              clear hown ho1
              go_wp2
              go_quiet (fail)
              obtain ⟨w1, hw1⟩ : ∃ w1, w1 = (wr.alloc (.cells #[.string ⟨(rf).toArray⟩, .string ⟨(rt).toArray⟩] 47)).drewN nq := ⟨_, rfl⟩
              rw [← hw1]
              have hbq : Below (wr.alloc (.cells #[.string ⟨(rf).toArray⟩, .string ⟨(rt).toArray⟩] 47)).heap.size (wr.alloc (.cells #[.string ⟨(rf).toArray⟩, .string ⟨(rt).toArray⟩] 47)) w1 := by rw [hw1]; exact below_drewN (Below.refl _ _) _
              have ho2 := own_below HO1.out hbq
              have hs2 := HS1.out.keep (Kept.all hbq)
              have hz1 := hbq.size
              rw [World.size_alloc] at hz1
              have hbw1 := hbw1.trans (hbq.mono (by rw [World.size_alloc]; omega))
              have f0 := cell_kept hbq _ _ e0
              have f1 := cell_kept hbq _ _ e1
              clear e0 e1 hw1
              obtain ⟨m0, m1, mfr⟩ := own_at ho2
              have hmx := fun (w : World) (ts : Array TypeId) (t : TypeId) (x y : Str) => run_max_S (P := Try.prog) w ts t x y
              have HMT2 := Lib.hid (HMT.out.trans (mrgS_le (r := (rf, rt)) hle))
              have HO5 := Lib.hid (own_setTo ho2 (mxS q2 rt))
              have HS5 := Lib.hid (hs2.keep (Kept.setLow (a := ⟨g, B.length * 2 + 1, none⟩) (.string ⟨(mxS q2 rt).toArray⟩) (fun b hb e => hb (by simp [Value.ownBlock, e]))))
              have HB5 : Hid (Below w.heap.size w (w1.setCell ⟨g, B.length * 2 + 1, none⟩ (.string ⟨(mxS q2 rt).toArray⟩))) := Lib.hid (hbw1.setCell hgw.1 _)
              clear ho2 hs2 HMT hgd hle d0 d1
              go_wp2
              go_region
              go_wp2
              refine ⟨⟨i + 1, by omega, by go_num, ?_, ?_, ?_⟩, by simp [intOf]; omega⟩
              · first | exact HB5.out.drew | exact below_drew HB5.out | exact below_drewN HB5.out 1
              · have e5 : (mrgL (ss.take (i + 1))).length = B.length + 1 := by rw [HMT2.out]; simp
                rw [e5, HMT2.out]; exact HO5.out
              · exact HS5.out
            | false =>
              have HMF := Lib.hid (HMT.out.trans (mrgS_gt (r := (rf, rt)) hle))
              have hgd : decide ((0 : Int) ≤ B.length) = true := by simp
              clear hown ho1 HMT
              go_wp2
              go_quiet (fail)
              obtain ⟨w1, hw1⟩ : ∃ w1, w1 = (wr.alloc (.cells #[.string ⟨(rf).toArray⟩, .string ⟨(rt).toArray⟩] 47)).drewN nq := ⟨_, rfl⟩
              rw [← hw1]
              have hbq : Below (wr.alloc (.cells #[.string ⟨(rf).toArray⟩, .string ⟨(rt).toArray⟩] 47)).heap.size (wr.alloc (.cells #[.string ⟨(rf).toArray⟩, .string ⟨(rt).toArray⟩] 47)) w1 := by rw [hw1]; exact below_drewN (Below.refl _ _) _
              have ho2 := own_below HO1.out hbq
              have hs2 := HS1.out.keep (Kept.all hbq)
              have hz1 := hbq.size
              rw [World.size_alloc] at hz1
              have hbw1 := hbw1.trans (hbq.mono (by rw [World.size_alloc]; omega))
              have f0 := cell_kept hbq _ _ e0
              have f1 := cell_kept hbq _ _ e1
              clear e0 e1 hw1
              have hb3 : Below w1.heap.size w1 (w1.alloc (.cells #[.string ⟨(rf).toArray⟩, .string ⟨(rt).toArray⟩] 47)) := (Below.refl _ _).alloc (Nat.le_refl _) _
              have HO3 := Lib.hid (own_below ho2 hb3)
              have HS3 := Lib.hid (hs2.keep (Kept.all hb3))
              have HLIT := Lib.hid (Sl.lit (n := 1) (sz := 2) (heap_alloc_new w1 (.cells #[.string ⟨(rf).toArray⟩, .string ⟨(rt).toArray⟩] 47)) rfl)
              have hz3 : w.heap.size ≤ (w1.alloc (.cells #[.string ⟨(rf).toArray⟩, .string ⟨(rt).toArray⟩] 47)).heap.size := by simp only [World.size_alloc]; omega
              have hbw3 := hbw1.alloc (by omega) (.cells #[.string ⟨(rf).toArray⟩, .string ⟨(rt).toArray⟩] 47)
              clear ho2 hs2
              go_wp2_with (at_builtin; refine wpList_appM w.heap.size 47 rfl _ _ 23 rfl Try.underlying23 hir rfl (by decide) rfl HO3.out rfl HLIT.out (rcells_one [(rf, rt)]) (by omega) (by omega) (by decide) hz3 ?_)
              intro v1 w4 ho4 hg4 hb4 hmv
              have hs4 := src_app HS3.out hg4 hmv
              have hb4' := hbw3.trans hb4
              have ho5 : w4.ownsRow w.heap.size 47 2 v1 (mrgL (ss.take (i + 1))).length (rcells (mrgL (ss.take (i + 1)))) := by
                rw [HMF.out, rcells_snoc, List.length_append, List.length_append]; exact ho4
              clear ho4 hg4 hmv
              go_wp2
              go_roundw
              case rel => exact ⟨i + 1, by omega, by go_num, hb4', ho5, hs4⟩
              case measure => simp [intOf]; omega
    | some r =>
      have hi2 := (List.getElem?_eq_some_iff.1 hi).1
      have hFT := filR_take hi
      have hfl := filR_len (rs.take i)
      rw [List.length_take] at hfl
      obtain ⟨hr1, hr2⟩ := HLEN.out r (List.mem_of_getElem? hi)
      obtain ⟨rf, rt⟩ := r
      obtain ⟨b, o, rfl, hbB, c0, c1⟩ := HS.out.row hi
      have k0 := cell_kept hb _ _ c0
      have k1 := cell_kept hb _ _ c1
      obtain ⟨w0, hw0⟩ : ∃ w0, w0 = wr.alloc (.cells #[.string ⟨(rf).toArray⟩, .string ⟨(rt).toArray⟩] 47) := ⟨_, rfl⟩
      have hb0 : Below wr.heap.size wr w0 := by rw [hw0]; exact (Below.refl _ _).alloc (Nat.le_refl _) _
      have hbx0 : w0.heap[wr.heap.size]? = some (.cells #[.string ⟨(rf).toArray⟩, .string ⟨(rt).toArray⟩] 47 (0, 0)) := by rw [hw0]; exact heap_alloc_new wr _
      have hz0 : w0.heap.size = wr.heap.size + 1 := by rw [hw0]; simp
      generalize hFL : filR (rs.take i) = fl at *
      have HOWN := Lib.hid hown
      have HW0 := Lib.hid hw0
      have HBX := Lib.hid hbx0
      clear hown hw0 hbx0 c0 c1
      go_wp2_with (go_at_call 56; refine (row_any _ _ _ hr1 hr2).mono ?_)
      first | rintro e w1 rfl hb1 | rintro e w1 ⟨rfl, hb1⟩
      rw [← HW0.out] at hb1; rw [← hz0] at hb1
      have hb1' := bel2 hb0 hb1
      have hz1 := hb1.size
      have hbx1 := (hb1.block _ (heap_lt HBX.out)).trans HBX.out
      have e0 : w1.cell? ⟨wr.heap.size, 0, none⟩ = some (.string ⟨(rf).toArray⟩) := by unfold World.cell?; rw [hbx1]; rfl
      have e1 : w1.cell? ⟨wr.heap.size, 1, none⟩ = some (.string ⟨(rt).toArray⟩) := by unfold World.cell?; rw [hbx1]; rfl
      have HO1 := Lib.hid (own_below HOWN.out hb1')
      clear hbx1
      cases hrow : rowB (rf, rt) with
      | false =>
        rw [hrow] at hFT
        have HFT := Lib.hid hFT
        clear hFT hFL
        go_wp2
        go_roundw
        case rel => exact ⟨i + 1, by omega, by go_num, hb.trans (hb1'.mono hB), by rw [HFT.out]; simpa using HO1.out⟩
        case measure => simp [intOf]; omega
      | true =>
        rw [hrow] at hFT
        have HFT := Lib.hid hFT
        clear hFT hFL
        have hb2 : Below w1.heap.size w1 (w1.alloc (.cells #[.string ⟨(rf).toArray⟩, .string ⟨(rt).toArray⟩] 47)) := (Below.refl _ _).alloc (Nat.le_refl _) _
        have HO2 := Lib.hid (own_below HO1.out hb2)
        have HSL := Lib.hid (Sl.lit (n := 1) (sz := 2) (heap_alloc_new w1 (.cells #[.string ⟨(rf).toArray⟩, .string ⟨(rt).toArray⟩] 47)) rfl)
        have hz2 : w.heap.size ≤ (w1.alloc (.cells #[.string ⟨(rf).toArray⟩, .string ⟨(rt).toArray⟩] 47)).heap.size := by rw [World.size_alloc]; omega
        have hbw2 := (hb.trans (hb1'.mono hB)).alloc (by omega) (.cells #[.string ⟨(rf).toArray⟩, .string ⟨(rt).toArray⟩] 47)
        go_wp2_with (at_builtin; refine wpList_appM w.heap.size 47 rfl _ _ 23 rfl Try.underlying23 hir rfl (by decide) rfl HO2.out rfl HSL.out (rcells_one [(rf, rt)]) (by omega) (by omega) (by decide) hz2 ?_)
        intro v1 w4 ho1 hg1 hb4 hmv
        have ho4 : w4.ownsRow w.heap.size 47 2 v1 (filR (rs.take (i + 1))).length (rcells (filR (rs.take (i + 1)))) := by
          rw [HFT.out, if_pos trivial, rcells_snoc, List.length_append]; exact ho1
        have hb4' := hbw2.trans hb4
        clear ho1 hg1 hmv
        go_wp2
        go_roundw
        case rel => exact ⟨i + 1, by omega, by go_num, hb4', ho4⟩
        case measure => simp [intOf]; omega
end Go.Proofs.Ytemophfieihgaaa
