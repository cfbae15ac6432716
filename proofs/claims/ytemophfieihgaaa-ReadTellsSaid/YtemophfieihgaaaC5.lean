/- walks of rxtree: Seq, Alt -/
import Derived.Test.YtemophfieihgaaaC4
set_option maxRecDepth 100000
namespace Go.Proofs.Ytemophfieihgaaa
open Go.RowKit
def kind0 (l : List Rx) : Rx := .mk 0 [] false [] 0 0 false l
def kind1 (l : List Rx) : Rx := .mk 1 [] false [] 0 0 false l
def seqR (xs : List Rx) : Rx := match flatL 0 xs with | [x] => x | l => kind0 l
def altR (xs : List Rx) : Rx := match flatL 1 xs with | [] => kind0 [] | [x] => x | l => kind1 l
set_option maxHeartbeats 1000000 in
theorem Seq_any (S : Nat → Prop) (a : Option Addr) (c : Nat) (xs : List Rx) (w : World) (hx : RxSl w S a xs.length xs) (hp : Rx.partsL xs ≤ 1000000) (hsm : Rx.smallL xs) :
    Calls Try.prog 19 #[.slice a xs.length c] w fun e w' => ∃ cc', e = .returned (.agg cc'.toArray) ∧ RxV w' (fun b => w.heap.size ≤ b) cc' (seqR xs) ∧ Below w.heap.size w w' := by
  unfold seqR
  obtain ⟨w0, hw0⟩ : ∃ w0, w0 = w.alloc (.cells #[.int .i64 0, .string ⟨#[]⟩, .bool false, .slice none 0 0, .int .i64 0, .int .i64 0, .bool false, .slice none 0 0] 26) := ⟨_, rfl⟩
  have hb0 : Below w.heap.size w w0 := by rw [hw0]; exact (Below.refl _ _).alloc (Nat.le_refl _) _
  have hz0 : w0.heap.size = w.heap.size + 1 := by rw [hw0]; simp
  have hby0 : w0.heap[w.heap.size]? = some (.cells #[.int .i64 0, .string ⟨#[]⟩, .bool false, .slice none 0 0, .int .i64 0, .int .i64 0, .bool false, .slice none 0 0] 26 (0, 0)) := by rw [hw0]; exact heap_alloc_new w _
  have HX0 := Lib.hid (hx.later hb0)
  rw [hw0] at HX0
  have HSM := Lib.hid hsm
  have HW0 := Lib.hid hw0
  have HBY0 := Lib.hid hby0
  have hfl := flatL_len 0 xs
  clear hx hsm hw0 hby0
  generalize hL : flatL 0 xs = L at *
  go_enter Try.func19, Try.ntmps19
  go_wp2_with (go_at_call 27; refine (flat_any S 0 _ _ xs _ HX0.out hp HSM.out).mono ?_)
  rintro e w1 ⟨a1, c1, rfl, hx1, hb1⟩
  rw [hL] at hx1 ⊢
  rw [← HW0.out] at hb1 hx1
  have hbw1 := bel2 hb0 hb1
  obtain ⟨f0, f1, f2, f3, f4, f5, f6, f7, f8⟩ := bx_cells (c := []) ((hb1.block _ (heap_lt HBY0.out)).trans HBY0.out)
  replace hx1 : RxSl w1 (fun b => w.heap.size + 1 ≤ b) a1 L.length L := hx1.mono fun b hb _ => by have : w0.heap.size ≤ b := hb; show w.heap.size + 1 ≤ b; omega
  clear hL hb1
  rcases L with _ | ⟨y, _ | ⟨z, L⟩⟩
  · have HX1 := Lib.hid hx1
    clear hx1
    go_wp2
    refine bodyPost_ret (v := .agg #[.int .i64 0, .string ⟨([]).toArray⟩, .bool false, .slice none ([] : List (Str × Str)).length 0, .int .i64 0, .int .i64 0, .bool false, .slice a1 ([] : List Rx).length c1]) (by simp [results, Try.results19, go_sem, f0, f1, f2, f3, f4, f5, f6, f7]) rfl ?_
    refine ⟨rxc 0 [] false none ([] : List (Str × Str)).length 0 0 0 false a1 ([] : List Rx).length c1, rfl, RxV.mono (S := fun b => w.heap.size + 1 ≤ b) (fun b hb _ => by have : w.heap.size + 1 ≤ b := hb; show w.heap.size ≤ b; omega) (RxV.close ?_ ?_), ?_⟩
    · iterate 8 (refine SlS.keep ?_ (Kept.setLow _ (fun b hb => by have : w.heap.size + 1 ≤ b := hb; simp; omega)))
      exact SlS.none_ _ _ _ _
    · iterate 8 (refine RxSl.keep ?_ (Kept.setLow _ (fun b hb => by have : w.heap.size + 1 ≤ b := hb; simp; omega)))
      exact HX1.out
    · iterate 8 (refine Below.setCell ?_ (by simp) _)
      exact hbw1
  · skip
    obtain ⟨yk, yc, yn, yr, yl, yh, yz, ys⟩ := y
    obtain ⟨b, o, ya, yrc, yka, ykc, rfl, hS, hbB, hyr, hyx, hyv, c0, c1', c2, c3, c4, c5, c6, c7⟩ := hx1.cells (m := 0) rfl
    simp only [Nat.zero_mul, Nat.add_zero] at c0 c1' c2 c3 c4 c5 c6 c7
    have HYR := Lib.hid hyr; have HYX := Lib.hid hyx
    clear hyr hyx hyv
    go_wp2
    refine bodyPost_ret (v := .agg #[.int .i64 yk, .string ⟨(yc).toArray⟩, .bool yn, .slice ya yr.length yrc, .int .i64 yl, .int .i64 yh, .bool yz, .slice yka ys.length ykc]) (by simp [results, Try.results19, go_sem, f0, f1, f2, f3, f4, f5, f6, f7]) rfl ?_
    refine ⟨rxc yk yc yn ya yr.length yrc yl yh yz yka ys.length ykc, rfl, RxV.mono (S := fun b => w.heap.size + 1 ≤ b) (fun b hb _ => by have : w.heap.size + 1 ≤ b := hb; show w.heap.size ≤ b; omega) (RxV.close ?_ ?_), ?_⟩
    · iterate 8 (refine SlS.keep ?_ (Kept.setLow _ (fun b hb => by have : w.heap.size + 1 ≤ b := hb; simp; omega)))
      exact HYR.out
    · iterate 8 (refine RxSl.keep ?_ (Kept.setLow _ (fun b hb => by have : w.heap.size + 1 ≤ b := hb; simp; omega)))
      exact HYX.out
    · iterate 8 (refine Below.setCell ?_ (by simp) _)
      exact hbw1
  · have HX1 := Lib.hid hx1
    have hne : (((z :: L).length : Int) + 1 == 1) = false := by rw [beq_eq_false_iff_ne]; simp; omega
    have hne2 : ((L.length : Int) + 1 + 1 == 1) = false := by rw [beq_eq_false_iff_ne]; omega
    clear hx1
    go_wp2
    refine bodyPost_ret (v := .agg #[.int .i64 0, .string ⟨([]).toArray⟩, .bool false, .slice none ([] : List (Str × Str)).length 0, .int .i64 0, .int .i64 0, .bool false, .slice a1 (y :: z :: L).length c1]) (by simp [results, Try.results19, go_sem, f0, f1, f2, f3, f4, f5, f6, f7]) rfl ?_
    refine ⟨rxc 0 [] false none ([] : List (Str × Str)).length 0 0 0 false a1 (y :: z :: L).length c1, rfl, RxV.mono (S := fun b => w.heap.size + 1 ≤ b) (fun b hb _ => by have : w.heap.size + 1 ≤ b := hb; show w.heap.size ≤ b; omega) (RxV.close ?_ ?_), ?_⟩
    · iterate 8 (refine SlS.keep ?_ (Kept.setLow _ (fun b hb => by have : w.heap.size + 1 ≤ b := hb; simp; omega)))
      exact SlS.none_ _ _ _ _
    · iterate 8 (refine RxSl.keep ?_ (Kept.setLow _ (fun b hb => by have : w.heap.size + 1 ≤ b := hb; simp; omega)))
      exact HX1.out
    · iterate 8 (refine Below.setCell ?_ (by simp) _)
      exact hbw1
set_option maxHeartbeats 1000000 in
theorem Alt_any (S : Nat → Prop) (a : Option Addr) (c : Nat) (xs : List Rx) (w : World) (hx : RxSl w S a xs.length xs) (hp : Rx.partsL xs ≤ 1000000) (hsm : Rx.smallL xs) :
    Calls Try.prog 18 #[.slice a xs.length c] w fun e w' => ∃ cc', e = .returned (.agg cc'.toArray) ∧ RxV w' (fun b => w.heap.size ≤ b) cc' (altR xs) ∧ Below w.heap.size w w' := by
  unfold altR
  obtain ⟨w0, hw0⟩ : ∃ w0, w0 = w.alloc (.cells #[.int .i64 0, .string ⟨#[]⟩, .bool false, .slice none 0 0, .int .i64 0, .int .i64 0, .bool false, .slice none 0 0] 26) := ⟨_, rfl⟩
  have hb0 : Below w.heap.size w w0 := by rw [hw0]; exact (Below.refl _ _).alloc (Nat.le_refl _) _
  have hz0 : w0.heap.size = w.heap.size + 1 := by rw [hw0]; simp
  have hby0 : w0.heap[w.heap.size]? = some (.cells #[.int .i64 0, .string ⟨#[]⟩, .bool false, .slice none 0 0, .int .i64 0, .int .i64 0, .bool false, .slice none 0 0] 26 (0, 0)) := by rw [hw0]; exact heap_alloc_new w _
  have HX0 := Lib.hid (hx.later hb0)
  rw [hw0] at HX0
  have HSM := Lib.hid hsm
  have HW0 := Lib.hid hw0
  have HBY0 := Lib.hid hby0
  have hfl := flatL_len 1 xs
  clear hx hsm hw0 hby0
  generalize hL : flatL 1 xs = L at *
  go_enter Try.func18, Try.ntmps18
  go_wp2_with (go_at_call 27; refine (flat_any S 1 _ _ xs _ HX0.out hp HSM.out).mono ?_)
  rintro e w1 ⟨a1, c1, rfl, hx1, hb1⟩
  rw [hL] at hx1 ⊢
  rw [← HW0.out] at hb1 hx1
  have hbw1 := bel2 hb0 hb1
  obtain ⟨f0, f1, f2, f3, f4, f5, f6, f7, f8⟩ := bx_cells (c := []) ((hb1.block _ (heap_lt HBY0.out)).trans HBY0.out)
  replace hx1 : RxSl w1 (fun b => w.heap.size + 1 ≤ b) a1 L.length L := hx1.mono fun b hb _ => by have : w0.heap.size ≤ b := hb; show w.heap.size + 1 ≤ b; omega
  clear hL hb1
  rcases L with _ | ⟨y, _ | ⟨z, L⟩⟩
  · clear hx1
    go_wp2
    refine bodyPost_ret (v := .agg #[.int .i64 0, .string ⟨([]).toArray⟩, .bool false, .slice none ([] : List (Str × Str)).length 0, .int .i64 0, .int .i64 0, .bool false, .slice none ([] : List Rx).length 0]) (by simp [results, Try.results18, go_sem, f0, f1, f2, f3, f4, f5, f6, f7]) rfl ?_
    refine ⟨rxc 0 [] false none ([] : List (Str × Str)).length 0 0 0 false none ([] : List Rx).length 0, rfl, RxV.mono (S := fun b => w.heap.size + 1 ≤ b) (fun b hb _ => by have : w.heap.size + 1 ≤ b := hb; show w.heap.size ≤ b; omega) (RxV.close ?_ ?_), ?_⟩
    · iterate 8 (refine SlS.keep ?_ (Kept.setLow _ (fun b hb => by have : w.heap.size + 1 ≤ b := hb; simp; omega)))
      exact SlS.none_ _ _ _ _
    · iterate 8 (refine RxSl.keep ?_ (Kept.setLow _ (fun b hb => by have : w.heap.size + 1 ≤ b := hb; simp; omega)))
      exact ⟨[], SlS.none_ _ _ _ _, .nil⟩
    · iterate 8 (refine Below.setCell ?_ (by simp) _)
      exact hbw1
  · skip
    obtain ⟨yk, yc, yn, yr, yl, yh, yz, ys⟩ := y
    obtain ⟨b, o, ya, yrc, yka, ykc, rfl, hS, hbB, hyr, hyx, hyv, c0, c1', c2, c3, c4, c5, c6, c7⟩ := hx1.cells (m := 0) rfl
    simp only [Nat.zero_mul, Nat.add_zero] at c0 c1' c2 c3 c4 c5 c6 c7
    have HYR := Lib.hid hyr; have HYX := Lib.hid hyx
    clear hyr hyx hyv
    go_wp2
    refine bodyPost_ret (v := .agg #[.int .i64 yk, .string ⟨(yc).toArray⟩, .bool yn, .slice ya yr.length yrc, .int .i64 yl, .int .i64 yh, .bool yz, .slice yka ys.length ykc]) (by simp [results, Try.results18, go_sem, f0, f1, f2, f3, f4, f5, f6, f7]) rfl ?_
    refine ⟨rxc yk yc yn ya yr.length yrc yl yh yz yka ys.length ykc, rfl, RxV.mono (S := fun b => w.heap.size + 1 ≤ b) (fun b hb _ => by have : w.heap.size + 1 ≤ b := hb; show w.heap.size ≤ b; omega) (RxV.close ?_ ?_), ?_⟩
    · iterate 8 (refine SlS.keep ?_ (Kept.setLow _ (fun b hb => by have : w.heap.size + 1 ≤ b := hb; simp; omega)))
      exact HYR.out
    · iterate 8 (refine RxSl.keep ?_ (Kept.setLow _ (fun b hb => by have : w.heap.size + 1 ≤ b := hb; simp; omega)))
      exact HYX.out
    · iterate 8 (refine Below.setCell ?_ (by simp) _)
      exact hbw1
  · have HX1 := Lib.hid hx1
    have hne0 : ((L.length : Int) + 1 + 1 == 0) = false := by rw [beq_eq_false_iff_ne]; omega
    have hne2 : ((L.length : Int) + 1 + 1 == 1) = false := by rw [beq_eq_false_iff_ne]; omega
    clear hx1
    go_wp2
    refine bodyPost_ret (v := .agg #[.int .i64 1, .string ⟨([]).toArray⟩, .bool false, .slice none ([] : List (Str × Str)).length 0, .int .i64 0, .int .i64 0, .bool false, .slice a1 (y :: z :: L).length c1]) (by simp [results, Try.results18, go_sem, f0, f1, f2, f3, f4, f5, f6, f7]) rfl ?_
    refine ⟨rxc 1 [] false none ([] : List (Str × Str)).length 0 0 0 false a1 (y :: z :: L).length c1, rfl, RxV.mono (S := fun b => w.heap.size + 1 ≤ b) (fun b hb _ => by have : w.heap.size + 1 ≤ b := hb; show w.heap.size ≤ b; omega) (RxV.close ?_ ?_), ?_⟩
    · iterate 8 (refine SlS.keep ?_ (Kept.setLow _ (fun b hb => by have : w.heap.size + 1 ≤ b := hb; simp; omega)))
      exact SlS.none_ _ _ _ _
    · iterate 8 (refine RxSl.keep ?_ (Kept.setLow _ (fun b hb => by have : w.heap.size + 1 ≤ b := hb; simp; omega)))
      exact HX1.out
    · iterate 8 (refine Below.setCell ?_ (by simp) _)
      exact hbw1
end Go.Proofs.Ytemophfieihgaaa
