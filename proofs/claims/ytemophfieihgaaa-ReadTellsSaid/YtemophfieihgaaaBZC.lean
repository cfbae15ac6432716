/- The document's trees: kids, Seq, Alt -/
import Derived.Test.YtemophfieihgaaaBZA
import Derived.Test.YtemophfieihgaaaBP
import Derived.Test.YtemophfieihgaaaX10
import Derived.Test.YtemophfieihgaaaS8
import Derived.Test.YtemophfieihgaaaBZB
import Derived.Test.YtemophfieihgaaaBX
import Derived.Test.YtemophfieihgaaaBY
set_option maxRecDepth 100000
namespace Go.Proofs.Ytemophfieihgaaa
open Go.RowKit
/-- Old blocks of S, or new ones. -/
def OldNew (S : Nat → Prop) (B : Nat) (b : Nat) : Prop := (S b ∧ b < B) ∨ B ≤ b
def KdRel (S : Nat → Prop) (kd : Int) (xs : List Rx) (w : World) (v q : Value) (wr : World) : Prop :=
  ∃ (i : Nat) (css : List (List Value)), i ≤ xs.length ∧ q = .int .i64 i ∧ Below w.heap.size w wr ∧ wr.ownsRow w.heap.size 26 8 v (flatL kd (xs.take i)).length css.flatten ∧ RxVs wr (fun b => S b ∧ b < w.heap.size) css (flatL kd (xs.take i))
theorem RxSl.of_own {w : World} {B : Nat} {a : Option Addr} {n c : Nat} {S : Nat → Prop} {css : List (List Value)} {xs : List Rx} (h : w.ownsRow B 26 8 (.slice a n c) n css.flatten) (hv : RxVs w (fun b => S b ∧ b < B) css xs) (hn : n = xs.length) : RxSl w (OldNew S B) a xs.length xs := by
  subst hn
  exact ⟨css, (own_slS h).mono fun b hb _ => .inr hb, hv.mono fun b hb _ => .inl hb⟩
set_option maxHeartbeats 1000000 in
theorem kids_any (S : Nat → Prop) (kd : Int) (a : Option Addr) (c : Nat) (xs : List Rx) (w : World) (hx : RxSl w S a xs.length xs) (hp : Rx.partsL xs ≤ 1000000) :
    Calls Try.prog 32 #[.int .i64 kd, .slice a xs.length c] w fun e w' => ∃ a' c', e = .returned (.slice a' (flatL kd xs).length c') ∧ RxSl w' (OldNew S w.heap.size) a' (flatL kd xs).length (flatL kd xs) ∧ Below w.heap.size w w' := by
  have HX := Lib.hid (hx.mono (S' := fun b => S b ∧ b < w.heap.size) fun b hb hl => ⟨hb, hl⟩)
  have hlp := Rx.len_parts xs
  obtain ⟨ix, hix⟩ := info_parts rx_info
  clear hx
  go_enter Try.func32, Try.ntmps32
  go_wp2
  go_loopw [5, 6] (fun v q wr => KdRel S kd xs w v q wr) (fun _ q _ => xs.length - (intOf q).toNat)
  case atStart => exact ⟨0, [], by omega, rfl, Below.refl _ _, by rw [List.take_zero]; exact World.ownsRow_nil _ _ _ _, by rw [List.take_zero]; exact .nil⟩
  case round =>
    obtain ⟨i, css, hik, rfl, hb, hown, hrv⟩ := hrel
    have hB := hb.size
    cases hd : xs.drop i with
    | nil =>
      have h2 : xs.length ≤ i := by simpa using hd
      rw [List.take_of_length_le h2] at hown hrv
      obtain ⟨va, vc, rfl⟩ := own_form hown
      have HXS := Lib.hid (RxSl.of_own hown hrv rfl)
      clear hd hown hrv
      go_wp2
      go_ret
      exact ⟨va, vc, rfl, HXS.out, hb⟩
    | cons y r =>
      obtain ⟨h2, h3, hr⟩ := ldrop_cons hd
      have hym := List.mem_of_getElem? h3
      have hyp := Rx.parts_mem hym
      have HTK : Hid (flatL kd (xs.take (i + 1)) = flatL kd (xs.take i) ++ (if y.kind = kd then y.kids else [y])) := Lib.hid (by
        rw [List.take_add_one, h3]; exact flatL_snoc kd _ y)
      have hfl := flatL_len kd (xs.take i)
      have hpt := partsL_take xs i
      obtain ⟨yk, yc, yn, yr, yl, yh, yz, ys⟩ := y
      have hyl := Rx.len_parts ys
      simp only [Rx.parts] at hyp
      obtain ⟨b, o, ya, yrc, yka, ykc, rfl, hS, hbB, hyr, hyx, hyv, c0, c1, c2, c3, c4, c5, c6, c7⟩ := ((HX.out.keep ⟨hb.size, fun b hb2 _ => hb.block b hb2.2⟩ : RxSl wr (fun b => S b ∧ b < w.heap.size) a xs.length xs)).cells h3
      generalize hFL : flatL kd (xs.take i) = fl at *
      obtain ⟨va, vc, rfl⟩ := own_form hown
      have HRV := Lib.hid hrv
      clear hd hr h3 hym hrv
      by_cases hkk : yk = kd
      · have hkb : (yk == kd) = true := by simpa using hkk
        have HTK2 : Hid (flatL kd (xs.take (i + 1)) = fl ++ ys) := Lib.hid (by rw [HTK.out, if_pos (show (Rx.mk yk yc yn yr yl yh yz ys).kind = kd from hkk)]; rfl)
        obtain ⟨ds, hds, hdv⟩ := hyx
        have HDS := Lib.hid hds.sl; have HDV := Lib.hid hdv
        have HOF := Lib.hid hown
        clear hkk hds hdv hown hyr hyv
        go_wp2_with (at_builtin; refine wpList_appM w.heap.size 26 rfl _ _ 24 rfl Try.underlying24 hix rfl (by decide) rfl HOF.out rfl HDS.out HDV.out.one (by omega) (by omega) (by decide) hB ?_)
        intro v1 w4 ho1 hg1 hb4 hmv
        have hb4' := hb.trans hb4
        have hrv4 : RxVs w4 (fun b => S b ∧ b < w.heap.size) (css ++ ds) (flatL kd (xs.take (i + 1))) := by
          rw [HTK2.out]
          exact (HRV.out.append HDV.out).keep ⟨hb4.size, fun b hb2 _ => hb4.block b hb2.2⟩
        have hown4 : w4.ownsRow w.heap.size 26 8 v1 (flatL kd (xs.take (i + 1))).length (css ++ ds).flatten := by
          rw [HTK2.out, List.length_append, List.flatten_append]; exact ho1
        clear ho1 hg1 hmv
        go_wp2
        go_roundw
        case rel => exact ⟨i + 1, css ++ ds, by omega, by go_num, hb4', hown4, hrv4⟩
        case measure => simp [intOf]; omega
      · have hkb : (yk == kd) = false := by simpa using hkk
        have HTK2 : Hid (flatL kd (xs.take (i + 1)) = fl ++ [.mk yk yc yn yr yl yh yz ys]) := Lib.hid (by rw [HTK.out, if_neg (show ¬ (Rx.mk yk yc yn yr yl yh yz ys).kind = kd from hkk)])
        have hbn : Below wr.heap.size wr (wr.alloc (.cells (rxc yk yc yn ya yr.length yrc yl yh yz yka ys.length ykc).toArray 26)) := (Below.refl _ _).alloc (Nat.le_refl _) _
        have ho6 := own_below hown hbn
        have hsl6 := Sl.lit (n := 1) (sz := 8) (heap_alloc_new wr (.cells (rxc yk yc yn ya yr.length yrc yl yh yz yka ys.length ykc).toArray 26)) rfl
        have hone := hyv.one
        have hbw6 := hb.trans (hbn.mono hB)
        have HVV := Lib.hid (RxVs.append (HRV.out.later hbn) (.cons (hyv.later hbn) .nil))
        unfold rxc at ho6 hsl6 hone hbw6 HVV
        have HO6 := Lib.hid ho6; have HSL6 := Lib.hid hsl6; have HONE := Lib.hid hone
        clear hkk hown hyr hyx hyv hbn ho6 hsl6 hone
        go_wp2_with (at_builtin; refine wpList_appM w.heap.size 26 rfl _ _ 24 rfl Try.underlying24 hix rfl (by decide) rfl HO6.out rfl HSL6.out HONE.out (by omega) (by omega) (by decide) (by simp; omega) ?_)
        intro v1 w4 ho1 hg1 hb4 hmv
        have hb4' := hbw6.trans hb4
        have hrv4 : RxVs w4 (fun b => S b ∧ b < w.heap.size) (css ++ [([.int .i64 yk, .string ⟨(yc).toArray⟩, .bool yn, .slice ya yr.length yrc, .int .i64 yl, .int .i64 yh, .bool yz, .slice yka ys.length ykc] : List Value)]) (flatL kd (xs.take (i + 1))) := by
          rw [HTK2.out]
          exact HVV.out.keep ⟨hb4.size, fun b hb2 _ => hb4.block b hb2.2⟩
        have hown4 : w4.ownsRow w.heap.size 26 8 v1 (flatL kd (xs.take (i + 1))).length (css ++ [([.int .i64 yk, .string ⟨(yc).toArray⟩, .bool yn, .slice ya yr.length yrc, .int .i64 yl, .int .i64 yh, .bool yz, .slice yka ys.length ykc] : List Value)]).flatten := by
          rw [HTK2.out, List.length_append, List.flatten_append]; simpa using ho1
        clear ho1 hg1 hmv
        go_wp2
        go_roundw
        case rel => exact ⟨i + 1, _, by omega, by go_num, hb4', hown4, hrv4⟩
        case measure => simp [intOf]; omega
set_option maxHeartbeats 1000000 in
theorem RSeq_any (S : Nat → Prop) (a : Option Addr) (c : Nat) (xs : List Rx) (w : World) (hx : RxSl w S a xs.length xs) (hp : Rx.partsL xs ≤ 1000000) :
    Calls Try.prog 24 #[.slice a xs.length c] w fun e w' => ∃ cc', e = .returned (.agg cc'.toArray) ∧ RxV w' (OldNew S w.heap.size) cc' (seqR xs) ∧ Below w.heap.size w w' := by
  unfold seqR
  obtain ⟨w0, hw0⟩ : ∃ w0, w0 = w.alloc (.cells #[.int .i64 0, .string ⟨#[]⟩, .bool false, .slice none 0 0, .int .i64 0, .int .i64 0, .bool false, .slice none 0 0] 26) := ⟨_, rfl⟩
  have hb0 : Below w.heap.size w w0 := by rw [hw0]; exact (Below.refl _ _).alloc (Nat.le_refl _) _
  have hz0 : w0.heap.size = w.heap.size + 1 := by rw [hw0]; simp
  have hby0 : w0.heap[w.heap.size]? = some (.cells #[.int .i64 0, .string ⟨#[]⟩, .bool false, .slice none 0 0, .int .i64 0, .int .i64 0, .bool false, .slice none 0 0] 26 (0, 0)) := by rw [hw0]; exact heap_alloc_new w _
  have HX0 := Lib.hid ((hx.mono (S' := fun b => S b ∧ b < w.heap.size) fun b hb hl => ⟨hb, hl⟩).later hb0)
  rw [hw0] at HX0
  have HW0 := Lib.hid hw0
  have HBY0 := Lib.hid hby0
  have hfl := flatL_len 0 xs
  clear hx hw0 hby0
  generalize hL : flatL 0 xs = L at *
  go_enter Try.func24, Try.ntmps24
  go_wp2_with (go_at_call 32; refine (kids_any _ 0 _ _ xs _ HX0.out hp).mono ?_)
  rintro e w1 ⟨a1, c1, rfl, hx1, hb1⟩
  rw [hL] at hx1 ⊢
  rw [← HW0.out] at hb1 hx1
  have hbw1 := bel2 hb0 hb1
  obtain ⟨f0, f1, f2, f3, f4, f5, f6, f7, f8⟩ := bx_cells (c := []) ((hb1.block _ (heap_lt HBY0.out)).trans HBY0.out)
  replace hx1 : RxSl w1 (fun b => (S b ∧ b < w.heap.size) ∨ w.heap.size + 1 ≤ b) a1 L.length L := hx1.mono fun b hb _ => by
    rcases hb with hb | hb
    · exact .inl hb.1
    · exact .inr (by have : w0.heap.size ≤ b := hb; omega)
  clear hL hb1
  rcases L with _ | ⟨y, _ | ⟨z, L⟩⟩
  · have HX1 := Lib.hid hx1
    clear hx1
    go_wp2
    refine bodyPost_ret (v := .agg #[.int .i64 0, .string ⟨([]).toArray⟩, .bool false, .slice none ([] : List (Str × Str)).length 0, .int .i64 0, .int .i64 0, .bool false, .slice a1 ([] : List Rx).length c1]) (by simp [results, Try.results24, go_sem, f0, f1, f2, f3, f4, f5, f6, f7]) rfl ?_
    refine ⟨rxc 0 [] false none ([] : List (Str × Str)).length 0 0 0 false a1 ([] : List Rx).length c1, rfl, RxV.mono (S := fun b => (S b ∧ b < w.heap.size) ∨ w.heap.size + 1 ≤ b) (fun b hb _ => hb.imp id (fun h => by omega)) (RxV.close ?_ ?_), ?_⟩
    · iterate 8 (refine SlS.keep ?_ (Kept.setLow _ (fun b hb => by have : (S b ∧ b < w.heap.size) ∨ w.heap.size + 1 ≤ b := hb; show b ≠ w.heap.size; omega)))
      exact SlS.none_ _ _ _ _
    · iterate 8 (refine RxSl.keep ?_ (Kept.setLow _ (fun b hb => by have : (S b ∧ b < w.heap.size) ∨ w.heap.size + 1 ≤ b := hb; show b ≠ w.heap.size; omega)))
      exact HX1.out
    · iterate 8 (refine Below.setCell ?_ (by simp) _)
      exact hbw1
  · skip
    obtain ⟨yk, yc, yn, yr, yl, yh, yz, ys⟩ := y
    obtain ⟨b, o, ya, yrc, yka, ykc, rfl, hS, hbB, hyr, hyx, hyv, c0, c1', c2, c3, c4, c5, c6, c7⟩ := hx1.cells (m := 0) rfl
    simp only [Nat.zero_mul, Nat.add_zero] at c0 c1' c2 c3 c4 c5 c6 c7
    have HYR := Lib.hid hyr; have HYX := Lib.hid hyx
    clear hyr hyx hyv
    go_wp2
    refine bodyPost_ret (v := .agg #[.int .i64 yk, .string ⟨(yc).toArray⟩, .bool yn, .slice ya yr.length yrc, .int .i64 yl, .int .i64 yh, .bool yz, .slice yka ys.length ykc]) (by simp [results, Try.results24, go_sem, f0, f1, f2, f3, f4, f5, f6, f7]) rfl ?_
    refine ⟨rxc yk yc yn ya yr.length yrc yl yh yz yka ys.length ykc, rfl, RxV.mono (S := fun b => (S b ∧ b < w.heap.size) ∨ w.heap.size + 1 ≤ b) (fun b hb _ => hb.imp id (fun h => by omega)) (RxV.close ?_ ?_), ?_⟩
    · iterate 8 (refine SlS.keep ?_ (Kept.setLow _ (fun b hb => by have : (S b ∧ b < w.heap.size) ∨ w.heap.size + 1 ≤ b := hb; show b ≠ w.heap.size; omega)))
      exact HYR.out
    · iterate 8 (refine RxSl.keep ?_ (Kept.setLow _ (fun b hb => by have : (S b ∧ b < w.heap.size) ∨ w.heap.size + 1 ≤ b := hb; show b ≠ w.heap.size; omega)))
      exact HYX.out
    · iterate 8 (refine Below.setCell ?_ (by simp) _)
      exact hbw1
  · have HX1 := Lib.hid hx1
    have hne : (((z :: L).length : Int) + 1 == 1) = false := by rw [beq_eq_false_iff_ne]; simp; omega
    have hne2 : ((L.length : Int) + 1 + 1 == 1) = false := by rw [beq_eq_false_iff_ne]; omega
    clear hx1
    go_wp2
    refine bodyPost_ret (v := .agg #[.int .i64 0, .string ⟨([]).toArray⟩, .bool false, .slice none ([] : List (Str × Str)).length 0, .int .i64 0, .int .i64 0, .bool false, .slice a1 (y :: z :: L).length c1]) (by simp [results, Try.results24, go_sem, f0, f1, f2, f3, f4, f5, f6, f7]) rfl ?_
    refine ⟨rxc 0 [] false none ([] : List (Str × Str)).length 0 0 0 false a1 (y :: z :: L).length c1, rfl, RxV.mono (S := fun b => (S b ∧ b < w.heap.size) ∨ w.heap.size + 1 ≤ b) (fun b hb _ => hb.imp id (fun h => by omega)) (RxV.close ?_ ?_), ?_⟩
    · iterate 8 (refine SlS.keep ?_ (Kept.setLow _ (fun b hb => by have : (S b ∧ b < w.heap.size) ∨ w.heap.size + 1 ≤ b := hb; show b ≠ w.heap.size; omega)))
      exact SlS.none_ _ _ _ _
    · iterate 8 (refine RxSl.keep ?_ (Kept.setLow _ (fun b hb => by have : (S b ∧ b < w.heap.size) ∨ w.heap.size + 1 ≤ b := hb; show b ≠ w.heap.size; omega)))
      exact HX1.out
    · iterate 8 (refine Below.setCell ?_ (by simp) _)
      exact hbw1
set_option maxHeartbeats 1000000 in
theorem RAlt_any (S : Nat → Prop) (a : Option Addr) (c : Nat) (xs : List Rx) (w : World) (hx : RxSl w S a xs.length xs) (hp : Rx.partsL xs ≤ 1000000) :
    Calls Try.prog 26 #[.slice a xs.length c] w fun e w' => ∃ cc', e = .returned (.agg cc'.toArray) ∧ RxV w' (OldNew S w.heap.size) cc' (altR xs) ∧ Below w.heap.size w w' := by
  unfold altR
  obtain ⟨w0, hw0⟩ : ∃ w0, w0 = w.alloc (.cells #[.int .i64 0, .string ⟨#[]⟩, .bool false, .slice none 0 0, .int .i64 0, .int .i64 0, .bool false, .slice none 0 0] 26) := ⟨_, rfl⟩
  have hb0 : Below w.heap.size w w0 := by rw [hw0]; exact (Below.refl _ _).alloc (Nat.le_refl _) _
  have hz0 : w0.heap.size = w.heap.size + 1 := by rw [hw0]; simp
  have hby0 : w0.heap[w.heap.size]? = some (.cells #[.int .i64 0, .string ⟨#[]⟩, .bool false, .slice none 0 0, .int .i64 0, .int .i64 0, .bool false, .slice none 0 0] 26 (0, 0)) := by rw [hw0]; exact heap_alloc_new w _
  have HX0 := Lib.hid ((hx.mono (S' := fun b => S b ∧ b < w.heap.size) fun b hb hl => ⟨hb, hl⟩).later hb0)
  rw [hw0] at HX0
  have HW0 := Lib.hid hw0
  have HBY0 := Lib.hid hby0
  have hfl := flatL_len 1 xs
  clear hx hw0 hby0
  generalize hL : flatL 1 xs = L at *
  go_enter Try.func26, Try.ntmps26
  go_wp2_with (go_at_call 32; refine (kids_any _ 1 _ _ xs _ HX0.out hp).mono ?_)
  rintro e w1 ⟨a1, c1, rfl, hx1, hb1⟩
  rw [hL] at hx1 ⊢
  rw [← HW0.out] at hb1 hx1
  have hbw1 := bel2 hb0 hb1
  obtain ⟨f0, f1, f2, f3, f4, f5, f6, f7, f8⟩ := bx_cells (c := []) ((hb1.block _ (heap_lt HBY0.out)).trans HBY0.out)
  replace hx1 : RxSl w1 (fun b => (S b ∧ b < w.heap.size) ∨ w.heap.size + 1 ≤ b) a1 L.length L := hx1.mono fun b hb _ => by
    rcases hb with hb | hb
    · exact .inl hb.1
    · exact .inr (by have : w0.heap.size ≤ b := hb; omega)
  clear hL hb1
  rcases L with _ | ⟨y, _ | ⟨z, L⟩⟩
  · clear hx1
    go_wp2
    refine bodyPost_ret (v := .agg #[.int .i64 0, .string ⟨([]).toArray⟩, .bool false, .slice none ([] : List (Str × Str)).length 0, .int .i64 0, .int .i64 0, .bool false, .slice none ([] : List Rx).length 0]) (by simp [results, Try.results26, go_sem, f0, f1, f2, f3, f4, f5, f6, f7]) rfl ?_
    refine ⟨rxc 0 [] false none ([] : List (Str × Str)).length 0 0 0 false none ([] : List Rx).length 0, rfl, RxV.mono (S := fun b => (S b ∧ b < w.heap.size) ∨ w.heap.size + 1 ≤ b) (fun b hb _ => hb.imp id (fun h => by omega)) (RxV.close ?_ ?_), ?_⟩
    · iterate 8 (refine SlS.keep ?_ (Kept.setLow _ (fun b hb => by have : (S b ∧ b < w.heap.size) ∨ w.heap.size + 1 ≤ b := hb; show b ≠ w.heap.size; omega)))
      exact SlS.none_ _ _ _ _
    · iterate 8 (refine RxSl.keep ?_ (Kept.setLow _ (fun b hb => by have : (S b ∧ b < w.heap.size) ∨ w.heap.size + 1 ≤ b := hb; show b ≠ w.heap.size; omega)))
      exact ⟨[], SlS.none_ _ _ _ _, .nil⟩
    · iterate 8 (refine Below.setCell ?_ (by simp) _)
      exact hbw1
  · skip
    obtain ⟨yk, yc, yn, yr, yl, yh, yz, ys⟩ := y
    obtain ⟨b, o, ya, yrc, yka, ykc, rfl, hS, hbB, hyr, hyx, hyv, c0, c1', c2, c3, c4, c5, c6, c7⟩ := hx1.cells (m := 0) rfl
    simp only [Nat.zero_mul, Nat.add_zero] at c0 c1' c2 c3 c4 c5 c6 c7
    have HYR := Lib.hid hyr; have HYX := Lib.hid hyx
    clear hyr hyx hyv
    go_wp2
    refine bodyPost_ret (v := .agg #[.int .i64 yk, .string ⟨(yc).toArray⟩, .bool yn, .slice ya yr.length yrc, .int .i64 yl, .int .i64 yh, .bool yz, .slice yka ys.length ykc]) (by simp [results, Try.results26, go_sem, f0, f1, f2, f3, f4, f5, f6, f7]) rfl ?_
    refine ⟨rxc yk yc yn ya yr.length yrc yl yh yz yka ys.length ykc, rfl, RxV.mono (S := fun b => (S b ∧ b < w.heap.size) ∨ w.heap.size + 1 ≤ b) (fun b hb _ => hb.imp id (fun h => by omega)) (RxV.close ?_ ?_), ?_⟩
    · iterate 8 (refine SlS.keep ?_ (Kept.setLow _ (fun b hb => by have : (S b ∧ b < w.heap.size) ∨ w.heap.size + 1 ≤ b := hb; show b ≠ w.heap.size; omega)))
      exact HYR.out
    · iterate 8 (refine RxSl.keep ?_ (Kept.setLow _ (fun b hb => by have : (S b ∧ b < w.heap.size) ∨ w.heap.size + 1 ≤ b := hb; show b ≠ w.heap.size; omega)))
      exact HYX.out
    · iterate 8 (refine Below.setCell ?_ (by simp) _)
      exact hbw1
  · have HX1 := Lib.hid hx1
    have hne0 : ((L.length : Int) + 1 + 1 == 0) = false := by rw [beq_eq_false_iff_ne]; omega
    have hne2 : ((L.length : Int) + 1 + 1 == 1) = false := by rw [beq_eq_false_iff_ne]; omega
    clear hx1
    go_wp2
    refine bodyPost_ret (v := .agg #[.int .i64 1, .string ⟨([]).toArray⟩, .bool false, .slice none ([] : List (Str × Str)).length 0, .int .i64 0, .int .i64 0, .bool false, .slice a1 (y :: z :: L).length c1]) (by simp [results, Try.results26, go_sem, f0, f1, f2, f3, f4, f5, f6, f7]) rfl ?_
    refine ⟨rxc 1 [] false none ([] : List (Str × Str)).length 0 0 0 false a1 (y :: z :: L).length c1, rfl, RxV.mono (S := fun b => (S b ∧ b < w.heap.size) ∨ w.heap.size + 1 ≤ b) (fun b hb _ => hb.imp id (fun h => by omega)) (RxV.close ?_ ?_), ?_⟩
    · iterate 8 (refine SlS.keep ?_ (Kept.setLow _ (fun b hb => by have : (S b ∧ b < w.heap.size) ∨ w.heap.size + 1 ≤ b := hb; show b ≠ w.heap.size; omega)))
      exact SlS.none_ _ _ _ _
    · iterate 8 (refine RxSl.keep ?_ (Kept.setLow _ (fun b hb => by have : (S b ∧ b < w.heap.size) ∨ w.heap.size + 1 ≤ b := hb; show b ≠ w.heap.size; omega)))
      exact HX1.out
    · iterate 8 (refine Below.setCell ?_ (by simp) _)
      exact hbw1
end Go.Proofs.Ytemophfieihgaaa
set_option maxRecDepth 100000
namespace Go.Proofs.Ytemophfieihgaaa
def atomP (pat : List Str → Nat → Res) : List Str → Nat → Res
  | [], _ => .error 10
  | c :: r, d => if c = [46] then .ok (rxK 3, r) else if c = [40] then groupM pat r d else if c = [91] then classM r else if c = [92] then escM r
    else if noAtom c = true then .error 10 else if properB c = true then .ok (chrR c, r) else .error 10
def termP (pat : List Str → Nat → Res) (r : List Str) (d : Nat) : Res := match edgeM r with
  | some y => .ok y
  | none => match atomP pat r d with
    | .error e => .error e
    | .ok (x, r1) => quantM x r1
def patP : Nat → List Str → Nat → Res
  | 0, _, _ => .error 1
  | n + 1, r, d => patL (fun r => termP (patP n) r d) (r.length + 1) [] [] r
theorem group_up {p q : List Str → Nat → Res} (h : ∀ r d y, p r d = .ok y → q r d = .ok y) {r : List Str} {d : Nat} {y : Rx × List Str} (hy : groupM p r d = .ok y) : groupM q r d = .ok y := by
  unfold groupM at hy ⊢
  by_cases hd : 16 ≤ d
  · rw [if_pos hd] at hy; cases hy
  rw [if_neg hd] at hy ⊢
  cases hk : groupK r with
  | none => rw [hk] at hy; cases hy
  | some z =>
    simp only [hk] at hy ⊢
    cases hx : p z.2 (d + 1) with
    | error e => simp only [hx] at hy; cases hy
    | ok x => simp only [hx] at hy; simp only [h _ _ _ hx]; exact hy
theorem atom_up {p q : List Str → Nat → Res} (h : ∀ r d y, p r d = .ok y → q r d = .ok y) {r : List Str} {d : Nat} {y : Rx × List Str} (hy : atomP p r d = .ok y) : atomM q r d = .ok y := by
  cases r with
  | nil => cases hy
  | cons c r =>
    simp only [atomP] at hy
    simp only [atomM]
    by_cases h1 : c = [46]
    · rw [if_pos h1] at hy ⊢; exact hy
    rw [if_neg h1] at hy ⊢
    by_cases h2 : c = [40]
    · rw [if_pos h2] at hy ⊢; exact group_up h hy
    rw [if_neg h2] at hy ⊢
    by_cases h3 : c = [91]
    · rw [if_pos h3] at hy ⊢; exact hy
    rw [if_neg h3] at hy ⊢
    by_cases h4 : c = [92]
    · rw [if_pos h4] at hy ⊢; exact hy
    rw [if_neg h4] at hy ⊢
    by_cases h5 : noAtom c = true
    · rw [if_pos h5] at hy; cases hy
    rw [if_neg h5] at hy ⊢
    by_cases h6 : properB c = true
    · rw [if_pos h6] at hy; exact hy
    · rw [if_neg h6] at hy; cases hy
theorem term_up {p q : List Str → Nat → Res} (h : ∀ r d y, p r d = .ok y → q r d = .ok y) {r : List Str} {d : Nat} {y : Rx × List Str} (hy : termP p r d = .ok y) : termM q r d = .ok y := by
  unfold termP at hy
  unfold termM
  cases he : edgeM r with
  | some z => simp only [he] at hy ⊢; exact hy
  | none =>
    simp only [he] at hy ⊢
    cases ha : atomP p r d with
    | error e => simp only [ha] at hy; cases hy
    | ok z => simp only [ha] at hy; simp only [atom_up h ha]; exact hy
theorem patL_up {t u : List Str → Res} (h : ∀ r y, t r = .ok y → u r = .ok y) : ∀ (n : Nat) (alts terms : List Rx) (r : List Str) {y : Rx × List Str}, patL t n alts terms r = .ok y → patL u n alts terms r = .ok y
  | 0, _, _, _, _, hy => by cases hy
  | n + 1, alts, terms, [], y, hy => hy
  | n + 1, alts, terms, c :: r, y, hy => by
    simp only [patL] at hy ⊢
    by_cases h1 : c = [41]
    · rw [if_pos h1] at hy ⊢; exact hy
    rw [if_neg h1] at hy ⊢
    by_cases h2 : c = [124]
    · rw [if_pos h2] at hy ⊢; exact patL_up h n _ _ _ hy
    rw [if_neg h2] at hy ⊢
    cases hx : t (c :: r) with
    | error e => simp only [hx] at hy; cases hy
    | ok z => simp only [hx] at hy; simp only [h _ _ hx]; exact patL_up h n _ _ _ hy
theorem patP_up : ∀ (n : Nat) (r : List Str) (d : Nat) (y : Rx × List Str), patP n r d = .ok y → patF n r d = .ok y
  | 0, _, _, _, h => by cases h
  | n + 1, r, d, y, h => patL_up (fun r y hy => term_up (patP_up n) hy) _ _ _ _ h
theorem termP_up {n : Nat} {r : List Str} {d : Nat} {y : Rx × List Str} (h : termP (patP n) r d = .ok y) : termM (patF n) r d = .ok y := term_up (patP_up n) h
/-! ### errors -/
theorem atomP_err {pat : List Str → Nat → Res} (hp : ∀ r d, errOk (pat r d)) (r : List Str) (d : Nat) : errOk (atomP pat r d) := by
  cases r with
  | nil => exact errOk_err (by decide)
  | cons c r =>
    simp only [atomP]
    by_cases h1 : c = [46]
    · rw [if_pos h1]; exact errOk_ok _
    rw [if_neg h1]
    by_cases h2 : c = [40]
    · rw [if_pos h2]; exact group_err hp _ _
    rw [if_neg h2]
    by_cases h3 : c = [91]
    · rw [if_pos h3]; exact class_err _
    rw [if_neg h3]
    by_cases h4 : c = [92]
    · rw [if_pos h4]; exact esc_err _
    rw [if_neg h4]
    by_cases h5 : noAtom c = true
    · rw [if_pos h5]; exact errOk_err (by decide)
    rw [if_neg h5]
    by_cases h6 : properB c = true
    · rw [if_pos h6]; exact errOk_ok _
    · rw [if_neg h6]; exact errOk_err (by decide)
theorem termP_err {pat : List Str → Nat → Res} (hp : ∀ r d, errOk (pat r d)) (r : List Str) (d : Nat) : errOk (termP pat r d) := by
  unfold termP
  cases edgeM r with
  | some y => exact errOk_ok _
  | none =>
    simp only
    cases hx : atomP pat r d with
    | error e => exact fun q hq => atomP_err hp _ _ _ (hx.trans hq)
    | ok y => exact quant_err _ _
theorem patP_err : ∀ (n : Nat) (r : List Str) (d : Nat), errOk (patP n r d)
  | 0, _, _ => errOk_err (by decide)
  | n + 1, r, d => patL_err (fun r => termP_err (patP_err n) r d) _ _ _ _
/-! ### on proper characters they are the same -/
def SameP (p q : List Str → Nat → Res) : Prop := ∀ r d, prC r → okC r → r.length ≤ 200000 → p r d = q r d
theorem group_same {p q : List Str → Nat → Res} (h : SameP p q) {r : List Str} {d : Nat} (hr : prC r) (ho : okC r) (hN : r.length ≤ 200000) : groupM p r d = groupM q r d := by
  unfold groupM
  by_cases hd : 16 ≤ d
  · rw [if_pos hd, if_pos hd]
  rw [if_neg hd, if_neg hd]
  cases hk : groupK r with
  | none => rfl
  | some z =>
    obtain ⟨k, r0⟩ := z
    have hs := (groupK_sfx hk).1
    simp only
    rw [h r0 (d + 1) (hr.sfx hs) (sfx_ok hs ho) (by have := sfx_len hs; omega)]
theorem atom_same {p q : List Str → Nat → Res} (h : SameP p q) {r : List Str} {d : Nat} (hr : prC r) (ho : okC r) (hN : r.length ≤ 200000) : atomP p r d = atomM q r d := by
  cases r with
  | nil => rfl
  | cons c r =>
    have h6 : properB c = true := hr c (List.mem_cons_self ..)
    simp only [List.length_cons] at hN
    simp only [atomP, atomM, h6, if_true]
    rw [group_same h (hr.sfx (List.suffix_cons _ _)) ho.tail (by omega)]
theorem term_same {p q : List Str → Nat → Res} (h : SameP p q) {r : List Str} {d : Nat} (hr : prC r) (ho : okC r) (hN : r.length ≤ 200000) : termP p r d = termM q r d := by
  unfold termP termM
  rw [atom_same h hr ho hN]
  cases edgeM r with
  | some y => rfl
  | none =>
    simp only
    cases atomM q r d <;> rfl
theorem patL_same {t u : List Str → Res} (h : ∀ r, prC r → okC r → r.length ≤ 200000 → t r = u r) (hs : ∀ r x r1, okC r → r.length ≤ 200000 → u r = .ok (x, r1) → r1 <:+ r) : ∀ (n : Nat) (alts terms : List Rx) (r : List Str), prC r → okC r → r.length ≤ 200000 →
    patL t n alts terms r = patL u n alts terms r
  | 0, _, _, _, _, _, _ => rfl
  | n + 1, alts, terms, [], _, _, _ => rfl
  | n + 1, alts, terms, c :: r, hr, ho, hN => by
    have hr1 := hr.sfx (List.suffix_cons c r)
    have hN1 : r.length ≤ 200000 := by simp only [List.length_cons] at hN; omega
    simp only [patL]
    by_cases h1 : c = [41]
    · rw [if_pos h1, if_pos h1]
    rw [if_neg h1, if_neg h1]
    by_cases h2 : c = [124]
    · rw [if_pos h2, if_pos h2]; exact patL_same h hs n _ _ _ hr1 ho.tail hN1
    rw [if_neg h2, if_neg h2, h _ hr ho hN]
    cases hx : u (c :: r) with
    | error e => rfl
    | ok z =>
      obtain ⟨x, r2⟩ := z
      have hsf := hs _ _ _ ho hN hx
      exact patL_same h hs n _ _ _ (hr.sfx hsf) (sfx_ok hsf ho) (by have := sfx_len hsf; omega)
theorem patP_same : ∀ (n : Nat), SameP (patP n) (patF n)
  | 0 => fun _ _ _ _ _ => rfl
  | n + 1 => fun r d hr ho hl => patL_same (fun r hr ho hl => term_same (patP_same n) hr ho hl) (fun r x r1 ho hl h => (term_facts (pat_facts n) h ho (by omega) (by omega)).1.2.2.2) _ _ _ _ hr ho hl
/-! ### the whole -/
def readP (l : List Str) : Except Int Rx := match patP (l.length + 1) l 0 with
  | .error e => .error e
  | .ok (x, []) => .ok x
  | .ok (_, _ :: _) => .error 10
theorem patP_bad {n : Nat} {c : Str} {r : List Str} {d : Nat} (hc : properB c = false) : patP (n + 1) (c :: r) d = .error 10 := by
  have hne : ∀ b : UInt8, insideB b = false → c ≠ [b] := fun b hb e => by subst e; simp [properB, hb] at hc
  have he : edgeM (c :: r) = none := by simp [edgeM, hne 94 (by decide), hne 36 (by decide), hne 92 (by decide)]
  have ha : termP (patP n) (c :: r) d = .error 10 := by
    unfold termP
    rw [he]
    simp only [atomP, if_neg (hne 46 (by decide)), if_neg (hne 40 (by decide)), if_neg (hne 91 (by decide)), if_neg (hne 92 (by decide)), hc]
    split <;> simp_all
  simp only [patP, List.length_cons, patL, if_neg (hne 41 (by decide)), if_neg (hne 124 (by decide)), ha]
theorem readP_eq (s : Str) (hs : s.length ≤ 256) : readP (splitM s) = readM s := by
  unfold readM
  rw [if_neg (by omega)]
  have hok := splitM_ok (s := s) (by omega)
  have hlen := splitM_len s
  cases hL : splitM s with
  | nil => rfl
  | cons c r =>
    simp only
    cases hc : properB c with
    | false =>
      simp only [readP, List.length_cons]
      rw [patP_bad hc]
      simp
    | true =>
      have hh : headP s := by
        cases s with
        | nil => trivial
        | cons b t =>
          rw [splitM_cons'] at hL
          injection hL with h1 h2
          subst h1
          show insideB b = false
          simp only [properB, Bool.and_eq_true, Bool.not_eq_true'] at hc
          exact hc.1
      have hpr := splitM_pr s.length s (Nat.le_refl _) hh
      rw [hL] at hpr hok hlen
      unfold readP readC
      rw [patP_same _ _ _ hpr hok (by omega), if_pos rfl]
      cases patF ((c :: r).length + 1) (c :: r) 0 with
      | error e => rfl
      | ok y =>
        obtain ⟨x, r2⟩ := y
        cases r2 <;> rfl
end Go.Proofs.Ytemophfieihgaaa
set_option maxRecDepth 100000
namespace Go.Proofs.Ytemophfieihgaaa
theorem splitR_eq : ∀ (r cur : Str), splitR cur r = (cur ++ r.takeWhile insideB) :: splitM (r.dropWhile insideB)
  | [], cur => by simp [splitR, splitM, splitF]
  | c :: r, cur => by
    simp only [splitR]
    cases h : insideB c with
    | true => rw [if_pos rfl, splitR_eq r (cur ++ [c]), List.takeWhile_cons_of_pos h, List.dropWhile_cons_of_pos h]; simp
    | false => rw [if_neg (by simp), splitR_eq r [c], List.takeWhile_cons_of_neg (by simp [h]), List.dropWhile_cons_of_neg (by simp [h]), splitM_cons']; simp
theorem splitL_eq (s : Str) : splitL s = splitM s := by
  cases s with
  | nil => rfl
  | cons c r => simp only [splitL]; rw [splitR_eq, splitM_cons']; rfl
end Go.Proofs.Ytemophfieihgaaa
set_option maxRecDepth 100000
namespace Go.Proofs.Ytemophfieihgaaa
open Go.RowKit
def PatQ (n : Nat) : Prop := ∀ (g d : Nat) (r : List Str) (w : World), Rd2 w g r → r.length < n → d ≤ 16 →
  Calls Try.prog 13 #[.pointer (some ⟨g, 0, none⟩), .int .i64 d] w fun e w' => ResQ g w.heap.size w (patP n r d) e w'
theorem takeM_ne {b : Str} {c : Str} {r : List Str} (h : c ≠ b) : takeM b (c :: r) = none := by rw [takeM, if_neg h]
theorem takeM_eq (c : Str) (r : List Str) : takeM c (c :: r) = some r := by rw [takeM, if_pos rfl]
set_option maxHeartbeats 4000000 in
theorem ratom_group {n : Nat} (hp : PatQ n) {g d : Nat} {r : List Str} (w : World) (h : Rd2 w g ([40] :: r)) (hl : r.length < n) (hd : d ≤ 16) :
    Calls Try.prog 30 #[.pointer (some ⟨g, 0, none⟩), .int .i64 d] w fun e w' => ResQ g w.heap.size w (groupM (patP n) r d) e w' := by
  obtain ⟨R, hR⟩ : ∃ R, groupM (patP n) r d = R := ⟨_, rfl⟩
  rw [hR]
  unfold groupM at hR
  have HP := Lib.hid hp
  have HT46 : Hid (takeM [46] ([40] :: r) = none) := Lib.hid (by simp [takeM])
  have HT40 : Hid (takeM [40] ([40] :: r) = some r) := Lib.hid (by simp [takeM])
  clear hp
  by_cases hd16 : 16 ≤ d
  · rw [if_pos hd16] at hR
    have HR := Lib.hid hR
    have hd16' : d = 16 := by omega
    have hde : decide ((16 : Int) ≤ (d : Int)) = true := by simp; omega
    clear hR hd16'
    obtain ⟨w0, hw0⟩ : ∃ w0, w0 = w.alloc (.cells #[.int .i64 0, .string ⟨#[]⟩, .bool false, .slice none 0 0, .int .i64 0, .int .i64 0, .bool false, .slice none 0 0] 26) := ⟨_, rfl⟩
    obtain ⟨hb0, hz0, hby0⟩ := alloc1 w hw0
    have HRD := Lib.hid (h.later hb0)
    rw [hw0] at HRD
    have HW0 := Lib.hid hw0
    have HBY0 := Lib.hid hby0
    have hgg : w.grownBy w0 (some g) := grown_of_below hb0 _
    have hgr : g < w.heap.size := h.lt
    clear hw0 hby0 h
    go_enter Try.func30, Try.ntmps30
    go_wp2_with (go_at_call 25; refine (rtake_no _ _ HRD.out HT46.out).mono ?_)
    rintro e w1 ⟨rfl, hrd1, hq1⟩
    rw [← HW0.out] at hq1
    have hg1 := grown_trans hgg hq1
    have HBY1 := Lib.hid (box_grown HBY0.out hq1 (by omega))
    have hz1 : w0.heap.size ≤ w1.heap.size := hq1.size
    have HRD1 := Lib.hid hrd1
    clear hrd1 hq1
    go_wp2_with (go_at_call 25; refine (rtake_some _ HRD1.out HT40.out).mono ?_)
    rintro e w2 ⟨rfl, hrd2, hq2⟩
    have hg2 := grown_trans hg1 hq2
    have HBY2 := Lib.hid (box_grown HBY1.out hq2 (by omega))
    have hz2 : w0.heap.size ≤ w2.heap.size := Nat.le_trans hz1 hq2.size
    have HRD2 := Lib.hid hrd2
    clear hrd2 hq2
    obtain ⟨f0, f1, f2, f3, f4, f5, f6, f7, f8⟩ := bx_cells (c := []) HBY2.out
    go_wp2
    refine bodyPost_ret (v := .tuple #[.agg #[.int .i64 0, .string ⟨([]).toArray⟩, .bool false, .slice none 0 0, .int .i64 0, .int .i64 0, .bool false, .slice none 0 0], .int .i64 8]) (by simp [results, Try.results30, go_sem, f0, f1, f2, f3, f4, f5, f6, f7]) rfl ?_
    refine ⟨?_, ?_⟩
    · iterate 8 (refine grown_setNew ?_ (by first | omega | (simp; done) | (simp; omega)) _)
      exact hg2
    · rw [← HR.out]; rfl
  rw [if_neg hd16] at hR
  have hde : decide ((16 : Int) ≤ (d : Int)) = false := by simp; omega
  obtain ⟨w0, hw0⟩ : ∃ w0, w0 = w.alloc (.cells #[.int .i64 0, .string ⟨#[]⟩, .bool false, .slice none 0 0, .int .i64 0, .int .i64 0, .bool false, .slice none 0 0] 26) := ⟨_, rfl⟩
  obtain ⟨hb0, hz0, hby0⟩ := alloc1 w hw0
  have HRD := Lib.hid (h.later hb0)
  rw [hw0] at HRD
  have HW0 := Lib.hid hw0
  have HBY0 := Lib.hid hby0
  have hgg : w.grownBy w0 (some g) := grown_of_below hb0 _
  have hgr : g < w.heap.size := h.lt
  clear hw0 hby0 h
  go_enter Try.func30, Try.ntmps30
  go_wp2_with (go_at_call 25; refine (rtake_no _ _ HRD.out HT46.out).mono ?_)
  rintro e w1 ⟨rfl, hrd1, hq1⟩
  rw [← HW0.out] at hq1
  have hg1 := grown_trans hgg hq1
  have HBY1 := Lib.hid (box_grown HBY0.out hq1 (by omega))
  have hz1 : w0.heap.size ≤ w1.heap.size := hq1.size
  have HRD1 := Lib.hid hrd1
  clear hrd1 hq1
  go_wp2_with (go_at_call 25; refine (rtake_some _ HRD1.out HT40.out).mono ?_)
  rintro e w2 ⟨rfl, hrd2, hq2⟩
  have hg2 := grown_trans hg1 hq2
  have HBY2 := Lib.hid (box_grown HBY1.out hq2 (by omega))
  have hz2 : w0.heap.size ≤ w2.heap.size := Nat.le_trans hz1 hq2.size
  have HRD2 := Lib.hid hrd2
  clear hrd2 hq2
  obtain ⟨w3, hw3⟩ : ∃ w3, w3 = w2.alloc (.cells #[.int .i64 5, .string ⟨#[]⟩, .bool false, .slice none 0 0, .int .i64 0, .int .i64 0, .bool false, .slice none 0 0] 26) := ⟨_, rfl⟩
  obtain ⟨hb3, hz3e, hbx3⟩ := alloc1 w2 hw3
  have hz3 : w0.heap.size ≤ w3.heap.size := by omega
  have HRD3 := Lib.hid (HRD2.out.later hb3)
  have HBY3 := Lib.hid ((hb3.block _ (heap_lt HBY2.out)).trans HBY2.out)
  have hg3 := grown_trans hg2 (grown_of_below hb3 (some g))
  obtain ⟨bx, hbxe⟩ : ∃ bx, bx = w2.heap.size := ⟨_, rfl⟩
  rw [← hbxe] at hbx3
  have HBX3 := Lib.hid hbx3
  have hbxz3 : bx < w3.heap.size := by omega
  have hbxw : w.heap.size < bx := by omega
  clear hbx3 hz3e
  go_wp2_with fail
  rw [← hw3, ← hbxe]
  clear hw3 hbxe hb3
  cases h1 : takeM [63] r with
  | none =>
    simp only [groupK, h1] at hR
    have HR := Lib.hid hR
    have H1 := Lib.hid h1
    clear hR h1
    go_wp2_with (go_at_call 25; refine (rtake_no _ _ HRD3.out H1.out).mono ?_)
    rintro e w4 ⟨rfl, hrd4, hq4⟩
    have hg4 := grown_trans hg3 hq4
    have HBY4 := Lib.hid (box_grown HBY3.out hq4 (by omega))
    have HBX4 := Lib.hid (box_grown HBX3.out hq4 (by omega))
    have hz4 : w0.heap.size ≤ w4.heap.size := Nat.le_trans hz3 hq4.size
    have hbxz4 : bx < w4.heap.size := Nat.lt_of_lt_of_le hbxz3 hq4.size
    have HRD4 := Lib.hid hrd4
    clear hrd4 hq4
    have HPAT : Hid (Calls Try.prog 13 #[.pointer (some ⟨g, 0, none⟩), .int .i64 ((d : Int) + 1)] w4 fun e w' => ResQ g w4.heap.size w4 (patP n r (d + 1)) e w') := Lib.hid (HP.out g (d + 1) r _ HRD4.out (by omega) (by omega))
    go_wp2_with (go_at_call 13; refine HPAT.out.mono ?_)
    rintro e w5 hq
    clear HPAT
    cases hpr : patP n r (d + 1) with
    | error q =>
      rw [hpr] at hq
      obtain ⟨hq5, rfl⟩ := hq
      have hq0 : q ≠ 0 := patP_err n r (d + 1) q hpr
      have HR2 : Hid (Except.error q = R) := Lib.hid (by rw [← HR.out]; simp only [hpr])
      have HR := HR2
      have hg5 := grown_trans hg4 hq5
      have hby5 := box_grown HBY4.out hq5 (by omega)
      have hb6 : Below w5.heap.size w5 (w5.alloc (.cells #[.int .i64 0, .string ⟨#[]⟩, .bool false, .slice none 0 0, .int .i64 0, .int .i64 0, .bool false, .slice none 0 0] 26)) := (Below.refl _ _).alloc (Nat.le_refl _) _
      have hg7 := grown_trans hg5 (grown_of_below hb6 (some g))
      have ne1 : (q != 0) = true := by simp [bne, hq0]
      obtain ⟨f0, f1, f2, f3, f4, f5, f6, f7, f8⟩ := bx_cells (c := []) ((hb6.block _ (heap_lt hby5)).trans hby5)
      clear hpr hby5 hb6
      unfold rxv0
      go_wp2
      refine bodyPost_ret (v := .tuple #[.agg #[.int .i64 0, .string ⟨([]).toArray⟩, .bool false, .slice none 0 0, .int .i64 0, .int .i64 0, .bool false, .slice none 0 0], .int .i64 q]) (by simp [results, Try.results30, go_sem, f0, f1, f2, f3, f4, f5, f6, f7]) rfl ?_
      refine ⟨?_, ?_⟩
      · iterate 8 (refine grown_setNew ?_ (by first | omega | (simp; done) | (simp; omega)) _)
        exact hg7
      · rw [← HR.out]; rfl
    | ok y =>
      obtain ⟨x, r3⟩ := y
      rw [hpr] at hq
      obtain ⟨hq5, cc, rfl, hxv, hrd5⟩ := hq
      have hg5 := grown_trans hg4 hq5
      have hz5 := hq5.size
      have HBY5 := Lib.hid (box_grown HBY4.out hq5 (by omega))
      have HBX5 := Lib.hid (box_grown HBX4.out hq5 (by omega))
      obtain ⟨k, c, ng, rs, lo, hi, lz, ks⟩ := x
      have hxv0 := hxv
      obtain ⟨ra, rc, ka, kc, rfl, hrs, hks⟩ := hxv.open_
      clear hrs hks hxv
      have HXV := Lib.hid (hxv0.mono (S' := fun b => w.heap.size ≤ b ∧ b ≠ w.heap.size ∧ b ≠ bx) fun b hb hlt => by omega)
      clear hxv0
      unfold rxc at HXV ⊢
      obtain ⟨w6, hw6⟩ : ∃ w6, w6 = w5.alloc (.cells #[.int .i64 k, .string ⟨(c).toArray⟩, .bool ng, .slice ra rs.length rc, .int .i64 lo, .int .i64 hi, .bool lz, .slice ka ks.length kc] 26) := ⟨_, rfl⟩
      obtain ⟨hb6, hz6e, hbz6⟩ := alloc1 w5 hw6
      have hz6 : w5.heap.size + 1 ≤ w6.heap.size := by omega
      clear hz6e
      have HRD6 := Lib.hid (hrd5.later hb6)
      have HBY6 := Lib.hid ((hb6.block _ (heap_lt HBY5.out)).trans HBY5.out)
      have HBX6 := Lib.hid ((hb6.block _ (heap_lt HBX5.out)).trans HBX5.out)
      have HBZ6 := Lib.hid hbz6
      have HXV6 := Lib.hid (HXV.out.later hb6)
      have hg6 := grown_trans hg5 (grown_of_below hb6 (some g))
      clear hrd5 hbz6 HXV HBX5 HBY5
      cases ht : takeM [41] r3 with
      | none =>
        have HR2 : Hid (Except.error 10 = R) := Lib.hid (by rw [← HR.out]; simp only [hpr, ht])
        have HR := HR2
        have HT := Lib.hid ht
        clear hpr ht
        go_wp2_with fail
        rw [← hw6]
        clear hw6
        go_wp2_with (go_at_call 25; refine (rtake_no _ _ HRD6.out HT.out).mono ?_)
        rintro e w9 ⟨rfl, hrd9, hq9⟩
        have hg9 := grown_trans hg6 hq9
        obtain ⟨f0, f1, f2, f3, f4, f5, f6, f7, f8⟩ := bx_cells (c := []) (box_grown HBY6.out hq9 (by omega))
        clear hrd9 hq9
        go_wp2
        refine bodyPost_ret (v := .tuple #[.agg #[.int .i64 0, .string ⟨([]).toArray⟩, .bool false, .slice none 0 0, .int .i64 0, .int .i64 0, .bool false, .slice none 0 0], .int .i64 10]) (by simp [results, Try.results30, go_sem, f0, f1, f2, f3, f4, f5, f6, f7]) rfl ?_
        refine ⟨?_, ?_⟩
        · iterate 8 (refine grown_setNew ?_ (by first | omega | (simp; done) | (simp; omega)) _)
          exact hg9
        · rw [← HR.out]; rfl
      | some r4 =>
        have HR2 : Hid (Except.ok (grpR 5 (.mk k c ng rs lo hi lz ks), r4) = R) := Lib.hid (by rw [← HR.out]; simp only [hpr, ht])
        have HR := HR2
        have HT := Lib.hid ht
        clear hpr ht
        go_wp2_with fail
        rw [← hw6]
        clear hw6
        go_wp2_with (go_at_call 25; refine (rtake_some _ HRD6.out HT.out).mono ?_)
        rintro e w9 ⟨rfl, hrd9, hq9⟩
        have hg9 := grown_trans hg6 hq9
        have hz9 := hq9.size
        have HBY9 := Lib.hid (box_grown HBY6.out hq9 (by omega))
        have HBX9 := Lib.hid (box_grown HBX6.out hq9 (by omega))
        have HRD9 := Lib.hid hrd9
        obtain ⟨k0, k1, k2, k3, k4, k5, k6, k7, k8⟩ := bx_cells (box_grown HBZ6.out hq9 (by omega))
        obtain ⟨e0, e1, e2, e3, e4, e5, e6, e7, e8⟩ := bx_cells (c := []) HBX9.out
        have HXV9 := Lib.hid (HXV6.out.keep (Kept.grown hq9 fun b hb => by have : w.heap.size ≤ b ∧ b ≠ w.heap.size ∧ b ≠ bx := hb; omega))
        have hbx9 : bx < w9.heap.size := by omega
        have hnx9 : bx ≠ w9.heap.size := by omega
        clear hrd9 hq9
        go_upto_region 17 with fail
        obtain ⟨wa, hwa⟩ : ∃ wa, wa = w9.setCell ⟨bx, 7, none⟩ (.slice (some ⟨w9.heap.size, 0, none⟩) 1 1) := ⟨_, rfl⟩
        have hza : wa.heap.size = w9.heap.size := by rw [hwa]; simp
        have hga : w.grownBy wa (some g) := hwa ▸ grown_setNew hg9 (a := ⟨bx, 7, none⟩) (by show w.heap.size ≤ bx; omega) _
        have HRDA : Hid (Rd2 wa g r4) := Lib.hid (hwa ▸ HRD9.out.setHi (a := ⟨bx, 7, none⟩) (by show g < bx; omega) _)
        have HBYA := Lib.hid (hwa ▸ box_other HBY9.out (a := ⟨bx, 7, none⟩) (by show bx ≠ w.heap.size; omega) (.slice (some ⟨w9.heap.size, 0, none⟩) 1 1))
        have HBXA : Hid (wa.heap[bx]? = some (.cells #[.int .i64 5, .string ⟨#[]⟩, .bool false, .slice none 0 0, .int .i64 0, .int .i64 0, .bool false, .slice (some ⟨w9.heap.size, 0, none⟩) 1 1] 26 (0, 0))) := Lib.hid (by rw [hwa, heap_setCell_same w9 _ _ _ _ _ HBX9.out]; rfl)
        have HXVA : Hid (RxV wa (fun b => w.heap.size ≤ b ∧ b ≠ w.heap.size ∧ b ≠ bx) _ _) := Lib.hid (hwa ▸ HXV9.out.keep (Kept.setLow (S := fun b => w.heap.size ≤ b ∧ b ≠ w.heap.size ∧ b ≠ bx) (a := ⟨bx, 7, none⟩) (.slice (some ⟨w9.heap.size, 0, none⟩) 1 1) (fun b hb => hb.2.2)))
        obtain ⟨wb, hwb⟩ : ∃ wb, wb = wa.alloc (.cells #[.int .i64 k, .string ⟨(c).toArray⟩, .bool ng, .slice ra rs.length rc, .int .i64 lo, .int .i64 hi, .bool lz, .slice ka ks.length kc] 26) := ⟨_, rfl⟩
        obtain ⟨hbb, hzbe, hbzb⟩ := alloc1 wa hwb
        rw [hza] at hbzb hzbe
        have hgb := grown_trans hga (grown_of_below hbb (some g))
        have HRDB := Lib.hid (HRDA.out.later hbb)
        have HKB := Lib.hid (RxSl.one (S := fun b => w.heap.size ≤ b ∧ b ≠ w.heap.size) ((HXVA.out.later hbb).mono (S' := fun b => w.heap.size ≤ b ∧ b ≠ w.heap.size) fun b hb _ => ⟨hb.1, hb.2.1⟩) hbzb ⟨by omega, by omega⟩)
        clear e0 e1 e2 e3 e4 e5 e6 e7 e8 k0 k1 k2 k3 k4 k5 k6 k7 k8
        obtain ⟨e0, e1, e2, e3, e4, e5, e6, e7, e8⟩ := bx_cells (c := []) ((hbb.block _ (heap_lt HBXA.out)).trans HBXA.out)
        obtain ⟨f0, f1, f2, f3, f4, f5, f6, f7, f8⟩ := bx_cells (c := []) ((hbb.block _ (heap_lt HBYA.out)).trans HBYA.out)
        rw [← hwa, ← hwb]
        clear hwa hwb hbb hbzb HXVA HRDA HBXA HBYA HXV9 HRD9 HBX9 HBY9 HXV6 HRD6 HBX6 HBY6 HBZ6
        go_wp2
        refine bodyPost_ret (v := .tuple #[.agg #[.int .i64 5, .string ⟨([]).toArray⟩, .bool false, .slice none ([] : List Row).length 0, .int .i64 0, .int .i64 0, .bool false, .slice (some ⟨w9.heap.size, 0, none⟩) [Rx.mk k c ng rs lo hi lz ks].length 1], .int .i64 0]) (by simp [results, Try.results30, go_sem, f0, f1, f2, f3, f4, f5, f6, f7]) rfl ?_
        refine ⟨?_, ?_⟩
        · iterate 8 (refine grown_setNew ?_ (by first | omega | (simp; done) | (simp; omega)) _)
          exact hgb
        rw [← HR.out]
        refine ⟨rxc 5 [] false none ([] : List Row).length 0 0 0 false (some ⟨w9.heap.size, 0, none⟩) [Rx.mk k c ng rs lo hi lz ks].length 1, rfl, RxV.mono (S := fun b => w.heap.size ≤ b ∧ b ≠ w.heap.size) (fun b hb _ => hb.1) ?_, ?_⟩
        · iterate 8 (refine RxV.keep (Kept.setLow _ (fun b hb => by have : w.heap.size ≤ b ∧ b ≠ w.heap.size := hb; first | omega | (simp; done) | (simp; omega))) ?_)
          exact (RxV.close (SlS.none_ _ _ _ _) HKB.out)
        · iterate 8 (refine RdT.setHi ?_ (by first | omega | (simp; done) | (simp; omega)) _)
          exact HRDB.out
  | some r1 =>
    cases h2 : takeM [58] r1 with
    | none =>
      simp only [groupK, h1, h2] at hR
      have HR := Lib.hid hR
      have H1 := Lib.hid h1
      have H2 := Lib.hid h2
      clear hR h1 h2
      go_wp2_with (go_at_call 25; refine (rtake_some _ HRD3.out H1.out).mono ?_)
      rintro e w4 ⟨rfl, hrd4, hq4⟩
      have hg4 := grown_trans hg3 hq4
      have HBY4 := Lib.hid (box_grown HBY3.out hq4 (by omega))
      have HBX4 := Lib.hid (box_grown HBX3.out hq4 (by omega))
      have hz4 : w0.heap.size ≤ w4.heap.size := Nat.le_trans hz3 hq4.size
      have hbxz4 : bx < w4.heap.size := Nat.lt_of_lt_of_le hbxz3 hq4.size
      have HRD4 := Lib.hid hrd4
      clear hrd4 hq4
      go_wp2_with (go_at_call 25; refine (rtake_no _ _ HRD4.out H2.out).mono ?_)
      rintro e w6 ⟨rfl, hrd6, hq6⟩
      have hg6 := grown_trans hg4 hq6
      have HBY6 := Lib.hid (box_grown HBY4.out hq6 (by omega))
      have HBX6 := Lib.hid (box_grown HBX4.out hq6 (by omega))
      have hz6 : w0.heap.size ≤ w6.heap.size := Nat.le_trans hz4 hq6.size
      have hbxz6 : bx < w6.heap.size := Nat.lt_of_lt_of_le hbxz4 hq6.size
      have HRD6 := Lib.hid hrd6
      clear hrd6 hq6
      obtain ⟨f0, f1, f2, f3, f4, f5, f6, f7, f8⟩ := bx_cells (c := []) HBY6.out
      go_wp2
      refine bodyPost_ret (v := .tuple #[.agg #[.int .i64 0, .string ⟨([]).toArray⟩, .bool false, .slice none 0 0, .int .i64 0, .int .i64 0, .bool false, .slice none 0 0], .int .i64 10]) (by simp [results, Try.results30, go_sem, f0, f1, f2, f3, f4, f5, f6, f7]) rfl ?_
      refine ⟨?_, ?_⟩
      · iterate 8 (refine grown_setNew ?_ (by first | omega | (simp; done) | (simp; omega)) _)
        exact hg6
      · rw [← HR.out]; rfl
    | some r2 =>
      simp only [groupK, h1, h2] at hR
      have HR := Lib.hid hR
      have H1 := Lib.hid h1
      have H2 := Lib.hid h2
      have hl2 : r2.length < n := by
        have e1 := takeM_some h1
        have e2 := takeM_some h2
        subst e1 e2
        simp at hl; omega
      clear hR h1 h2 hl
      go_wp2_with (go_at_call 25; refine (rtake_some _ HRD3.out H1.out).mono ?_)
      rintro e w6 ⟨rfl, hrd6, hq6⟩
      have hg6 := grown_trans hg3 hq6
      have HBY6 := Lib.hid (box_grown HBY3.out hq6 (by omega))
      have HBX6 := Lib.hid (box_grown HBX3.out hq6 (by omega))
      have hz6 : w0.heap.size ≤ w6.heap.size := Nat.le_trans hz3 hq6.size
      have hbxz6 : bx < w6.heap.size := Nat.lt_of_lt_of_le hbxz3 hq6.size
      have HRD6 := Lib.hid hrd6
      clear hrd6 hq6
      go_wp2_with (go_at_call 25; refine (rtake_some _ HRD6.out H2.out).mono ?_)
      rintro e w7 ⟨rfl, hrd7, hq7⟩
      have hg7 := grown_trans hg6 hq7
      have HBY7 := Lib.hid (box_grown HBY6.out hq7 (by omega))
      have HBX7 := Lib.hid (box_grown HBX6.out hq7 (by omega))
      have hz7 : w0.heap.size ≤ w7.heap.size := Nat.le_trans hz6 hq7.size
      have hbxz7 : bx < w7.heap.size := Nat.lt_of_lt_of_le hbxz6 hq7.size
      have HRD7 := Lib.hid hrd7
      clear hrd7 hq7
      obtain ⟨e0, e1, e2, e3, e4, e5, e6, e7, e8⟩ := bx_cells (c := []) HBX7.out
      obtain ⟨w4, hw4⟩ : ∃ w4, w4 = w7.setCell ⟨bx, 0, none⟩ (.int .i64 6) := ⟨_, rfl⟩
      have HRD4 : Hid (Rd2 w4 g r2) := Lib.hid (hw4 ▸ HRD7.out.setHi (a := ⟨bx, 0, none⟩) (by show g < bx; omega) _)
      have hg4 : w.grownBy w4 (some g) := hw4 ▸ grown_setNew hg7 (a := ⟨bx, 0, none⟩) (by show w.heap.size ≤ bx; omega) _
      have HBY4 := Lib.hid (hw4 ▸ box_other HBY7.out (a := ⟨bx, 0, none⟩) (by show bx ≠ w.heap.size; omega) (.int .i64 6))
      have HBX4 : Hid (w4.heap[bx]? = some (.cells #[.int .i64 6, .string ⟨#[]⟩, .bool false, .slice none 0 0, .int .i64 0, .int .i64 0, .bool false, .slice none 0 0] 26 (0, 0))) := Lib.hid (by rw [hw4, heap_setCell_same w7 _ _ _ _ _ HBX7.out]; rfl)
      have hz4 : w0.heap.size ≤ w4.heap.size := by rw [hw4]; simp; omega
      have hbxz4 : bx < w4.heap.size := by rw [hw4]; simp; omega
      go_wp2_with fail
      rw [← hw4]
      clear hw4 e0 e1 e2 e3 e4 e5 e6 e7 e8
      have HPAT : Hid (Calls Try.prog 13 #[.pointer (some ⟨g, 0, none⟩), .int .i64 ((d : Int) + 1)] w4 fun e w' => ResQ g w4.heap.size w4 (patP n r2 (d + 1)) e w') := Lib.hid (HP.out g (d + 1) r2 _ HRD4.out (by omega) (by omega))
      go_wp2_with (go_at_call 13; refine HPAT.out.mono ?_)
      rintro e w5 hq
      clear HPAT
      cases hpr : patP n r2 (d + 1) with
      | error q =>
        rw [hpr] at hq
        obtain ⟨hq5, rfl⟩ := hq
        have hq0 : q ≠ 0 := patP_err n r2 (d + 1) q hpr
        have HR2 : Hid (Except.error q = R) := Lib.hid (by rw [← HR.out]; simp only [hpr])
        have HR := HR2
        have hg5 := grown_trans hg4 hq5
        have hby5 := box_grown HBY4.out hq5 (by omega)
        have hb6 : Below w5.heap.size w5 (w5.alloc (.cells #[.int .i64 0, .string ⟨#[]⟩, .bool false, .slice none 0 0, .int .i64 0, .int .i64 0, .bool false, .slice none 0 0] 26)) := (Below.refl _ _).alloc (Nat.le_refl _) _
        have hg7 := grown_trans hg5 (grown_of_below hb6 (some g))
        have ne1 : (q != 0) = true := by simp [bne, hq0]
        obtain ⟨f0, f1, f2, f3, f4, f5, f6, f7, f8⟩ := bx_cells (c := []) ((hb6.block _ (heap_lt hby5)).trans hby5)
        clear hpr hby5 hb6
        unfold rxv0
        go_wp2
        refine bodyPost_ret (v := .tuple #[.agg #[.int .i64 0, .string ⟨([]).toArray⟩, .bool false, .slice none 0 0, .int .i64 0, .int .i64 0, .bool false, .slice none 0 0], .int .i64 q]) (by simp [results, Try.results30, go_sem, f0, f1, f2, f3, f4, f5, f6, f7]) rfl ?_
        refine ⟨?_, ?_⟩
        · iterate 8 (refine grown_setNew ?_ (by first | omega | (simp; done) | (simp; omega)) _)
          exact hg7
        · rw [← HR.out]; rfl
      | ok y =>
        obtain ⟨x, r3⟩ := y
        rw [hpr] at hq
        obtain ⟨hq5, cc, rfl, hxv, hrd5⟩ := hq
        have hg5 := grown_trans hg4 hq5
        have hz5 := hq5.size
        have HBY5 := Lib.hid (box_grown HBY4.out hq5 (by omega))
        have HBX5 := Lib.hid (box_grown HBX4.out hq5 (by omega))
        obtain ⟨k, c, ng, rs, lo, hi, lz, ks⟩ := x
        have hxv0 := hxv
        obtain ⟨ra, rc, ka, kc, rfl, hrs, hks⟩ := hxv.open_
        clear hrs hks hxv
        have HXV := Lib.hid (hxv0.mono (S' := fun b => w.heap.size ≤ b ∧ b ≠ w.heap.size ∧ b ≠ bx) fun b hb hlt => by omega)
        clear hxv0
        unfold rxc at HXV ⊢
        obtain ⟨w6, hw6⟩ : ∃ w6, w6 = w5.alloc (.cells #[.int .i64 k, .string ⟨(c).toArray⟩, .bool ng, .slice ra rs.length rc, .int .i64 lo, .int .i64 hi, .bool lz, .slice ka ks.length kc] 26) := ⟨_, rfl⟩
        obtain ⟨hb6, hz6e, hbz6⟩ := alloc1 w5 hw6
        have hz6 : w5.heap.size + 1 ≤ w6.heap.size := by omega
        clear hz6e
        have HRD6 := Lib.hid (hrd5.later hb6)
        have HBY6 := Lib.hid ((hb6.block _ (heap_lt HBY5.out)).trans HBY5.out)
        have HBX6 := Lib.hid ((hb6.block _ (heap_lt HBX5.out)).trans HBX5.out)
        have HBZ6 := Lib.hid hbz6
        have HXV6 := Lib.hid (HXV.out.later hb6)
        have hg6 := grown_trans hg5 (grown_of_below hb6 (some g))
        clear hrd5 hbz6 HXV HBX5 HBY5
        cases ht : takeM [41] r3 with
        | none =>
          have HR2 : Hid (Except.error 10 = R) := Lib.hid (by rw [← HR.out]; simp only [hpr, ht])
          have HR := HR2
          have HT := Lib.hid ht
          clear hpr ht
          go_wp2_with fail
          rw [← hw6]
          clear hw6
          go_wp2_with (go_at_call 25; refine (rtake_no _ _ HRD6.out HT.out).mono ?_)
          rintro e w9 ⟨rfl, hrd9, hq9⟩
          have hg9 := grown_trans hg6 hq9
          obtain ⟨f0, f1, f2, f3, f4, f5, f6, f7, f8⟩ := bx_cells (c := []) (box_grown HBY6.out hq9 (by omega))
          clear hrd9 hq9
          go_wp2
          refine bodyPost_ret (v := .tuple #[.agg #[.int .i64 0, .string ⟨([]).toArray⟩, .bool false, .slice none 0 0, .int .i64 0, .int .i64 0, .bool false, .slice none 0 0], .int .i64 10]) (by simp [results, Try.results30, go_sem, f0, f1, f2, f3, f4, f5, f6, f7]) rfl ?_
          refine ⟨?_, ?_⟩
          · iterate 8 (refine grown_setNew ?_ (by first | omega | (simp; done) | (simp; omega)) _)
            exact hg9
          · rw [← HR.out]; rfl
        | some r4 =>
          have HR2 : Hid (Except.ok (grpR 6 (.mk k c ng rs lo hi lz ks), r4) = R) := Lib.hid (by rw [← HR.out]; simp only [hpr, ht])
          have HR := HR2
          have HT := Lib.hid ht
          clear hpr ht
          go_wp2_with fail
          rw [← hw6]
          clear hw6
          go_wp2_with (go_at_call 25; refine (rtake_some _ HRD6.out HT.out).mono ?_)
          rintro e w9 ⟨rfl, hrd9, hq9⟩
          have hg9 := grown_trans hg6 hq9
          have hz9 := hq9.size
          have HBY9 := Lib.hid (box_grown HBY6.out hq9 (by omega))
          have HBX9 := Lib.hid (box_grown HBX6.out hq9 (by omega))
          have HRD9 := Lib.hid hrd9
          obtain ⟨k0, k1, k2, k3, k4, k5, k6, k7, k8⟩ := bx_cells (box_grown HBZ6.out hq9 (by omega))
          obtain ⟨e0, e1, e2, e3, e4, e5, e6, e7, e8⟩ := bx_cells (c := []) HBX9.out
          have HXV9 := Lib.hid (HXV6.out.keep (Kept.grown hq9 fun b hb => by have : w.heap.size ≤ b ∧ b ≠ w.heap.size ∧ b ≠ bx := hb; omega))
          have hbx9 : bx < w9.heap.size := by omega
          have hnx9 : bx ≠ w9.heap.size := by omega
          clear hrd9 hq9
          go_upto_region 17 with fail
          obtain ⟨wa, hwa⟩ : ∃ wa, wa = w9.setCell ⟨bx, 7, none⟩ (.slice (some ⟨w9.heap.size, 0, none⟩) 1 1) := ⟨_, rfl⟩
          have hza : wa.heap.size = w9.heap.size := by rw [hwa]; simp
          have hga : w.grownBy wa (some g) := hwa ▸ grown_setNew hg9 (a := ⟨bx, 7, none⟩) (by show w.heap.size ≤ bx; omega) _
          have HRDA : Hid (Rd2 wa g r4) := Lib.hid (hwa ▸ HRD9.out.setHi (a := ⟨bx, 7, none⟩) (by show g < bx; omega) _)
          have HBYA := Lib.hid (hwa ▸ box_other HBY9.out (a := ⟨bx, 7, none⟩) (by show bx ≠ w.heap.size; omega) (.slice (some ⟨w9.heap.size, 0, none⟩) 1 1))
          have HBXA : Hid (wa.heap[bx]? = some (.cells #[.int .i64 6, .string ⟨#[]⟩, .bool false, .slice none 0 0, .int .i64 0, .int .i64 0, .bool false, .slice (some ⟨w9.heap.size, 0, none⟩) 1 1] 26 (0, 0))) := Lib.hid (by rw [hwa, heap_setCell_same w9 _ _ _ _ _ HBX9.out]; rfl)
          have HXVA : Hid (RxV wa (fun b => w.heap.size ≤ b ∧ b ≠ w.heap.size ∧ b ≠ bx) _ _) := Lib.hid (hwa ▸ HXV9.out.keep (Kept.setLow (S := fun b => w.heap.size ≤ b ∧ b ≠ w.heap.size ∧ b ≠ bx) (a := ⟨bx, 7, none⟩) (.slice (some ⟨w9.heap.size, 0, none⟩) 1 1) (fun b hb => hb.2.2)))
          obtain ⟨wb, hwb⟩ : ∃ wb, wb = wa.alloc (.cells #[.int .i64 k, .string ⟨(c).toArray⟩, .bool ng, .slice ra rs.length rc, .int .i64 lo, .int .i64 hi, .bool lz, .slice ka ks.length kc] 26) := ⟨_, rfl⟩
          obtain ⟨hbb, hzbe, hbzb⟩ := alloc1 wa hwb
          rw [hza] at hbzb hzbe
          have hgb := grown_trans hga (grown_of_below hbb (some g))
          have HRDB := Lib.hid (HRDA.out.later hbb)
          have HKB := Lib.hid (RxSl.one (S := fun b => w.heap.size ≤ b ∧ b ≠ w.heap.size) ((HXVA.out.later hbb).mono (S' := fun b => w.heap.size ≤ b ∧ b ≠ w.heap.size) fun b hb _ => ⟨hb.1, hb.2.1⟩) hbzb ⟨by omega, by omega⟩)
          clear e0 e1 e2 e3 e4 e5 e6 e7 e8 k0 k1 k2 k3 k4 k5 k6 k7 k8
          obtain ⟨e0, e1, e2, e3, e4, e5, e6, e7, e8⟩ := bx_cells (c := []) ((hbb.block _ (heap_lt HBXA.out)).trans HBXA.out)
          obtain ⟨f0, f1, f2, f3, f4, f5, f6, f7, f8⟩ := bx_cells (c := []) ((hbb.block _ (heap_lt HBYA.out)).trans HBYA.out)
          rw [← hwa, ← hwb]
          clear hwa hwb hbb hbzb HXVA HRDA HBXA HBYA HXV9 HRD9 HBX9 HBY9 HXV6 HRD6 HBX6 HBY6 HBZ6
          go_wp2
          refine bodyPost_ret (v := .tuple #[.agg #[.int .i64 6, .string ⟨([]).toArray⟩, .bool false, .slice none ([] : List Row).length 0, .int .i64 0, .int .i64 0, .bool false, .slice (some ⟨w9.heap.size, 0, none⟩) [Rx.mk k c ng rs lo hi lz ks].length 1], .int .i64 0]) (by simp [results, Try.results30, go_sem, f0, f1, f2, f3, f4, f5, f6, f7]) rfl ?_
          refine ⟨?_, ?_⟩
          · iterate 8 (refine grown_setNew ?_ (by first | omega | (simp; done) | (simp; omega)) _)
            exact hgb
          rw [← HR.out]
          refine ⟨rxc 6 [] false none ([] : List Row).length 0 0 0 false (some ⟨w9.heap.size, 0, none⟩) [Rx.mk k c ng rs lo hi lz ks].length 1, rfl, RxV.mono (S := fun b => w.heap.size ≤ b ∧ b ≠ w.heap.size) (fun b hb _ => hb.1) ?_, ?_⟩
          · iterate 8 (refine RxV.keep (Kept.setLow _ (fun b hb => by have : w.heap.size ≤ b ∧ b ≠ w.heap.size := hb; first | omega | (simp; done) | (simp; omega))) ?_)
            exact (RxV.close (SlS.none_ _ _ _ _) HKB.out)
          · iterate 8 (refine RdT.setHi ?_ (by first | omega | (simp; done) | (simp; omega)) _)
            exact HRDB.out
set_option maxHeartbeats 4000000 in
theorem ratom_any {n : Nat} (hp : PatQ n) {g d : Nat} {r : List Str} (w : World) (h : Rd2 w g r) (hl : r.length ≤ n) (hd : d ≤ 16) (he : edgeM r = none) :
    Calls Try.prog 30 #[.pointer (some ⟨g, 0, none⟩), .int .i64 d] w fun e w' => ResQ g w.heap.size w (atomP (patP n) r d) e w' := by
  obtain ⟨R, hR⟩ : ∃ R, atomP (patP n) r d = R := ⟨_, rfl⟩
  rw [hR]
  cases r with
  | nil =>
    have HR : Hid (Except.error 10 = R) := Lib.hid hR
    have HT : Hid (∀ c, takeM c ([] : List Str) = none) := Lib.hid (fun _ => rfl)
    have HPR := Lib.hid (fun w => RProper_any [] w (by simp))
    clear hR hp he
    obtain ⟨w0, hw0⟩ : ∃ w0, w0 = w.alloc (.cells #[.int .i64 0, .string ⟨#[]⟩, .bool false, .slice none 0 0, .int .i64 0, .int .i64 0, .bool false, .slice none 0 0] 26) := ⟨_, rfl⟩
    obtain ⟨hb0, hz0, hby0⟩ := alloc1 w hw0
    have HRD := Lib.hid (h.later hb0)
    rw [hw0] at HRD
    have HW0 := Lib.hid hw0
    have HBY0 := Lib.hid hby0
    have hgg : w.grownBy w0 (some g) := grown_of_below hb0 _
    have hgr : g < w.heap.size := h.lt
    clear hw0 hby0 h
    go_enter Try.func30, Try.ntmps30
    go_wp2_with (go_at_call 25; refine (rtake_no _ _ HRD.out (HT.out _)).mono ?_)
    rintro e w1 ⟨rfl, hrd1, hq1⟩
    rw [← HW0.out] at hq1
    have hg1 := grown_trans hgg hq1
    have HBY1 := Lib.hid (box_grown HBY0.out hq1 (by omega))
    have hz1 : w0.heap.size ≤ w1.heap.size := hq1.size
    have HRD1 := Lib.hid hrd1
    clear hrd1 hq1
    go_wp2_with (go_at_call 25; refine (rtake_no _ _ HRD1.out (HT.out _)).mono ?_)
    rintro e w2 ⟨rfl, hrd2, hq2⟩
    have hg2 := grown_trans hg1 hq2
    have HBY2 := Lib.hid (box_grown HBY1.out hq2 (by omega))
    have hz2 : w0.heap.size ≤ w2.heap.size := Nat.le_trans hz1 hq2.size
    have HRD2 := Lib.hid hrd2
    clear hrd2 hq2
    go_wp2_with (go_at_call 25; refine (rtake_no _ _ HRD2.out (HT.out _)).mono ?_)
    rintro e w3 ⟨rfl, hrd3, hq3⟩
    have hg3 := grown_trans hg2 hq3
    have HBY3 := Lib.hid (box_grown HBY2.out hq3 (by omega))
    have hz3 : w0.heap.size ≤ w3.heap.size := Nat.le_trans hz2 hq3.size
    have HRD3 := Lib.hid hrd3
    clear hrd3 hq3
    go_wp2_with (go_at_call 25; refine (rtake_no _ _ HRD3.out (HT.out _)).mono ?_)
    rintro e w4 ⟨rfl, hrd4, hq4⟩
    have hg4 := grown_trans hg3 hq4
    have HBY4 := Lib.hid (box_grown HBY3.out hq4 (by omega))
    have hz4 : w0.heap.size ≤ w4.heap.size := Nat.le_trans hz3 hq4.size
    have HRD4 := Lib.hid hrd4
    clear hrd4 hq4
    go_wp2_with (go_at_call 22; refine (rsee_any _ HRD4.out).mono ?_)
    rintro e w5 ⟨rfl, hst⟩
    have hg5 := grown_trans hg4 (hst.grown (some g))
    have HBY5 := Lib.hid (box_grown HBY4.out (hst.grown (some g)) (by omega))
    clear hst
    have hh : hdS ([] : List Str) = [] := rfl
    rw [hh]
    clear hh
    go_wp2_with (go_at_call 42; refine (HPR.out _).mono ?_)
    first | rintro e w6 rfl hb6 | rintro e w6 ⟨rfl, hb6⟩
    have hpn : properB [] = false := rfl
    rw [hpn]
    clear hpn
    have hg6 := grown_trans hg5 (grown_of_below hb6 (some g))
    obtain ⟨f0, f1, f2, f3, f4, f5, f6, f7, f8⟩ := bx_cells (c := []) ((hb6.block _ (heap_lt HBY5.out)).trans HBY5.out)
    go_wp2
    refine bodyPost_ret (v := .tuple #[.agg #[.int .i64 0, .string ⟨([]).toArray⟩, .bool false, .slice none 0 0, .int .i64 0, .int .i64 0, .bool false, .slice none 0 0], .int .i64 10]) (by simp [results, Try.results30, go_sem, f0, f1, f2, f3, f4, f5, f6, f7]) rfl ?_
    refine ⟨?_, ?_⟩
    · iterate 8 (refine grown_setNew ?_ (by first | omega | (simp; done) | (simp; omega)) _)
      exact hg6
    · rw [← HR.out]; rfl
  | cons c r1 =>
    have hc := h.pos.1
    have hcl := h.pos.2
    simp only [List.length_cons] at hl
    by_cases h46 : c = [46]
    · subst h46
      have HR : Hid (Except.ok (rxK 3, r1) = R) := Lib.hid hR
      clear hR hp he
      obtain ⟨w0, hw0⟩ : ∃ w0, w0 = w.alloc (.cells #[.int .i64 0, .string ⟨#[]⟩, .bool false, .slice none 0 0, .int .i64 0, .int .i64 0, .bool false, .slice none 0 0] 26) := ⟨_, rfl⟩
      obtain ⟨hb0, hz0, hby0⟩ := alloc1 w hw0
      have HRD := Lib.hid (h.later hb0)
      rw [hw0] at HRD
      have HW0 := Lib.hid hw0
      have HBY0 := Lib.hid hby0
      have hgg : w.grownBy w0 (some g) := grown_of_below hb0 _
      have hgr : g < w.heap.size := h.lt
      clear hw0 hby0 h
      go_enter Try.func30, Try.ntmps30
      go_wp2_with (go_at_call 25; refine (rtake_some _ HRD.out (takeM_eq [46] r1)).mono ?_)
      rintro e w1 ⟨rfl, hrd1, hq1⟩
      rw [← HW0.out] at hq1
      have hg1 := grown_trans hgg hq1
      have HBY1 := Lib.hid (box_grown HBY0.out hq1 (by omega))
      have hz1 : w0.heap.size ≤ w1.heap.size := hq1.size
      have HRD1 := Lib.hid hrd1
      clear hrd1 hq1
      obtain ⟨f0, f1, f2, f3, f4, f5, f6, f7, f8⟩ := bx_cells (c := []) HBY1.out
      go_wp2
      refine bodyPost_ret (v := .tuple #[.agg #[.int .i64 3, .string ⟨([]).toArray⟩, .bool false, .slice none ([] : List Row).length 0, .int .i64 0, .int .i64 0, .bool false, .slice none ([] : List Rx).length 0], .int .i64 0]) (by simp [results, Try.results30, go_sem, f0, f1, f2, f3, f4, f5, f6, f7]) rfl ?_
      refine ⟨?_, ?_⟩
      · iterate 8 (refine grown_setNew ?_ (by first | omega | (simp; done) | (simp; omega)) _)
        exact hg1
      rw [← HR.out]
      refine ⟨rxc 3 [] false none ([] : List Row).length 0 0 0 false none ([] : List Rx).length 0, rfl, RxV.mono (S := fun b => w.heap.size ≤ b ∧ b ≠ w.heap.size) (fun b hb _ => hb.1) ?_, ?_⟩
      · iterate 8 (refine RxV.keep (Kept.setLow _ (fun b hb => by have : w.heap.size ≤ b ∧ b ≠ w.heap.size := hb; first | omega | (simp; done) | (simp; omega))) ?_)
        exact (RxV.close (SlS.none_ _ _ _ _) ⟨[], SlS.none_ _ _ _ _, .nil⟩)
      · iterate 8 (refine RdT.setHi ?_ (by first | omega | (simp; done) | (simp; omega)) _)
        exact HRD1.out
    have HT46 := Lib.hid (takeM_ne (r := r1) h46)
    by_cases h40 : c = [40]
    · subst h40
      have := ratom_group hp w h (by omega) hd
      rw [show groupM (patP n) r1 d = R from hR] at this
      exact this
    have HT40 := Lib.hid (takeM_ne (r := r1) h40)
    by_cases h91 : c = [91]
    · subst h91
      have HR : Hid (classM r1 = R) := Lib.hid hR
      clear hR hp he
      obtain ⟨w0, hw0⟩ : ∃ w0, w0 = w.alloc (.cells #[.int .i64 0, .string ⟨#[]⟩, .bool false, .slice none 0 0, .int .i64 0, .int .i64 0, .bool false, .slice none 0 0] 26) := ⟨_, rfl⟩
      obtain ⟨hb0, hz0, hby0⟩ := alloc1 w hw0
      have HRD := Lib.hid (h.later hb0)
      rw [hw0] at HRD
      have HW0 := Lib.hid hw0
      have HBY0 := Lib.hid hby0
      have hgg : w.grownBy w0 (some g) := grown_of_below hb0 _
      have hgr : g < w.heap.size := h.lt
      clear hw0 hby0 h
      go_enter Try.func30, Try.ntmps30
      go_wp2_with (go_at_call 25; refine (rtake_no _ _ HRD.out HT46.out).mono ?_)
      rintro e w1 ⟨rfl, hrd1, hq1⟩
      rw [← HW0.out] at hq1
      have hg1 := grown_trans hgg hq1
      have HBY1 := Lib.hid (box_grown HBY0.out hq1 (by omega))
      have hz1 : w0.heap.size ≤ w1.heap.size := hq1.size
      have HRD1 := Lib.hid hrd1
      clear hrd1 hq1
      go_wp2_with (go_at_call 25; refine (rtake_no _ _ HRD1.out HT40.out).mono ?_)
      rintro e w2 ⟨rfl, hrd2, hq2⟩
      have hg2 := grown_trans hg1 hq2
      have HBY2 := Lib.hid (box_grown HBY1.out hq2 (by omega))
      have hz2 : w0.heap.size ≤ w2.heap.size := Nat.le_trans hz1 hq2.size
      have HRD2 := Lib.hid hrd2
      clear hrd2 hq2
      go_wp2_with (go_at_call 25; refine (rtake_some _ HRD2.out (takeM_eq [91] r1)).mono ?_)
      rintro e w3 ⟨rfl, hrd3, hq3⟩
      have hg3 := grown_trans hg2 hq3
      have HBY3 := Lib.hid (box_grown HBY2.out hq3 (by omega))
      have hz3 : w0.heap.size ≤ w3.heap.size := Nat.le_trans hz2 hq3.size
      have HRD3 := Lib.hid hrd3
      clear hrd3 hq3
      go_wp2_with (go_at_call 40; refine (rclass_any _ HRD3.out).mono ?_)
      rintro e w5 hq
      cases hres : classM r1 with
      | error q =>
        rw [hres] at hq
        obtain ⟨hq8, rfl⟩ := hq
        have HR2 : Hid (Except.error q = R) := Lib.hid (by rw [← HR.out, hres])
        have HR := HR2
        have hg8 := grown_trans hg3 hq8
        obtain ⟨f0, f1, f2, f3, f4, f5, f6, f7, f8⟩ := bx_cells (c := []) (box_grown HBY3.out hq8 (by omega))
        clear hres hq8
        unfold rxv0
        go_wp2
        refine bodyPost_ret (v := .tuple #[.agg #[.int .i64 0, .string ⟨([]).toArray⟩, .bool false, .slice none 0 0, .int .i64 0, .int .i64 0, .bool false, .slice none 0 0], .int .i64 q]) (by simp [results, Try.results30, go_sem, f0, f1, f2, f3, f4, f5, f6, f7]) rfl ?_
        refine ⟨?_, ?_⟩
        · iterate 8 (refine grown_setNew ?_ (by first | omega | (simp; done) | (simp; omega)) _)
          exact hg8
        · rw [← HR.out]; rfl
      | ok y =>
        obtain ⟨x, r3⟩ := y
        rw [hres] at hq
        obtain ⟨hq8, cc, rfl, hxv, hrd9⟩ := hq
        have HR2 : Hid (Except.ok (x, r3) = R) := Lib.hid (by rw [← HR.out, hres])
        have HR := HR2
        have hg8 := grown_trans hg3 hq8
        have HRD9 := Lib.hid hrd9
        obtain ⟨k, c, ng, rs, lo, hi, lz, ks⟩ := x
        have hxv0 := hxv
        obtain ⟨ra, rc, ka, kc, rfl, hrs, hks⟩ := hxv.open_
        have HXV := Lib.hid (hxv0.mono (S' := fun b => w.heap.size ≤ b ∧ b ≠ w.heap.size) fun b hb hlt => by have := hz3; constructor <;> omega)
        obtain ⟨f0, f1, f2, f3, f4, f5, f6, f7, f8⟩ := bx_cells (c := []) (box_grown HBY3.out hq8 (by omega))
        clear hres hq8 hrd9 hxv hxv0 hrs hks
        unfold rxc at HXV ⊢
        go_wp2
        refine bodyPost_ret (v := .tuple #[.agg #[.int .i64 k, .string ⟨(c).toArray⟩, .bool ng, .slice ra rs.length rc, .int .i64 lo, .int .i64 hi, .bool lz, .slice ka ks.length kc], .int .i64 0]) (by simp [results, Try.results30, go_sem, f0, f1, f2, f3, f4, f5, f6, f7]) rfl ?_
        refine ⟨?_, ?_⟩
        · iterate 8 (refine grown_setNew ?_ (by first | omega | (simp; done) | (simp; omega)) _)
          exact hg8
        rw [← HR.out]
        refine ⟨rxc k c ng ra rs.length rc lo hi lz ka ks.length kc, rfl, RxV.mono (S := fun b => w.heap.size ≤ b ∧ b ≠ w.heap.size) (fun b hb _ => hb.1) ?_, ?_⟩
        · iterate 8 (refine RxV.keep (Kept.setLow _ (fun b hb => by have : w.heap.size ≤ b ∧ b ≠ w.heap.size := hb; first | omega | (simp; done) | (simp; omega))) ?_)
          exact HXV.out
        · iterate 8 (refine RdT.setHi ?_ (by first | omega | (simp; done) | (simp; omega)) _)
          exact HRD9.out
    have HT91 := Lib.hid (takeM_ne (r := r1) h91)
    by_cases h92 : c = [92]
    · subst h92
      have HR : Hid (escM r1 = R) := Lib.hid hR
      clear hR hp he
      obtain ⟨w0, hw0⟩ : ∃ w0, w0 = w.alloc (.cells #[.int .i64 0, .string ⟨#[]⟩, .bool false, .slice none 0 0, .int .i64 0, .int .i64 0, .bool false, .slice none 0 0] 26) := ⟨_, rfl⟩
      obtain ⟨hb0, hz0, hby0⟩ := alloc1 w hw0
      have HRD := Lib.hid (h.later hb0)
      rw [hw0] at HRD
      have HW0 := Lib.hid hw0
      have HBY0 := Lib.hid hby0
      have hgg : w.grownBy w0 (some g) := grown_of_below hb0 _
      have hgr : g < w.heap.size := h.lt
      clear hw0 hby0 h
      go_enter Try.func30, Try.ntmps30
      go_wp2_with (go_at_call 25; refine (rtake_no _ _ HRD.out HT46.out).mono ?_)
      rintro e w1 ⟨rfl, hrd1, hq1⟩
      rw [← HW0.out] at hq1
      have hg1 := grown_trans hgg hq1
      have HBY1 := Lib.hid (box_grown HBY0.out hq1 (by omega))
      have hz1 : w0.heap.size ≤ w1.heap.size := hq1.size
      have HRD1 := Lib.hid hrd1
      clear hrd1 hq1
      go_wp2_with (go_at_call 25; refine (rtake_no _ _ HRD1.out HT40.out).mono ?_)
      rintro e w2 ⟨rfl, hrd2, hq2⟩
      have hg2 := grown_trans hg1 hq2
      have HBY2 := Lib.hid (box_grown HBY1.out hq2 (by omega))
      have hz2 : w0.heap.size ≤ w2.heap.size := Nat.le_trans hz1 hq2.size
      have HRD2 := Lib.hid hrd2
      clear hrd2 hq2
      go_wp2_with (go_at_call 25; refine (rtake_no _ _ HRD2.out HT91.out).mono ?_)
      rintro e w3 ⟨rfl, hrd3, hq3⟩
      have hg3 := grown_trans hg2 hq3
      have HBY3 := Lib.hid (box_grown HBY2.out hq3 (by omega))
      have hz3 : w0.heap.size ≤ w3.heap.size := Nat.le_trans hz2 hq3.size
      have HRD3 := Lib.hid hrd3
      clear hrd3 hq3
      go_wp2_with (go_at_call 25; refine (rtake_some _ HRD3.out (takeM_eq [92] r1)).mono ?_)
      rintro e w4 ⟨rfl, hrd4, hq4⟩
      have hg4 := grown_trans hg3 hq4
      have HBY4 := Lib.hid (box_grown HBY3.out hq4 (by omega))
      have hz4 : w0.heap.size ≤ w4.heap.size := Nat.le_trans hz3 hq4.size
      have HRD4 := Lib.hid hrd4
      clear hrd4 hq4
      go_wp2_with (go_at_call 41; refine (back_any _ HRD4.out).mono ?_)
      rintro e w5 hq
      cases hres : escM r1 with
      | error q =>
        rw [hres] at hq
        obtain ⟨hq8, rfl⟩ := hq
        have HR2 : Hid (Except.error q = R) := Lib.hid (by rw [← HR.out, hres])
        have HR := HR2
        have hg8 := grown_trans hg4 hq8
        obtain ⟨f0, f1, f2, f3, f4, f5, f6, f7, f8⟩ := bx_cells (c := []) (box_grown HBY4.out hq8 (by omega))
        clear hres hq8
        unfold rxv0
        go_wp2
        refine bodyPost_ret (v := .tuple #[.agg #[.int .i64 0, .string ⟨([]).toArray⟩, .bool false, .slice none 0 0, .int .i64 0, .int .i64 0, .bool false, .slice none 0 0], .int .i64 q]) (by simp [results, Try.results30, go_sem, f0, f1, f2, f3, f4, f5, f6, f7]) rfl ?_
        refine ⟨?_, ?_⟩
        · iterate 8 (refine grown_setNew ?_ (by first | omega | (simp; done) | (simp; omega)) _)
          exact hg8
        · rw [← HR.out]; rfl
      | ok y =>
        obtain ⟨x, r3⟩ := y
        rw [hres] at hq
        obtain ⟨hq8, cc, rfl, hxv, hrd9⟩ := hq
        have HR2 : Hid (Except.ok (x, r3) = R) := Lib.hid (by rw [← HR.out, hres])
        have HR := HR2
        have hg8 := grown_trans hg4 hq8
        have HRD9 := Lib.hid hrd9
        obtain ⟨k, c, ng, rs, lo, hi, lz, ks⟩ := x
        have hxv0 := hxv
        obtain ⟨ra, rc, ka, kc, rfl, hrs, hks⟩ := hxv.open_
        have HXV := Lib.hid (hxv0.mono (S' := fun b => w.heap.size ≤ b ∧ b ≠ w.heap.size) fun b hb hlt => by have := hz4; constructor <;> omega)
        obtain ⟨f0, f1, f2, f3, f4, f5, f6, f7, f8⟩ := bx_cells (c := []) (box_grown HBY4.out hq8 (by omega))
        clear hres hq8 hrd9 hxv hxv0 hrs hks
        unfold rxc at HXV ⊢
        go_wp2
        refine bodyPost_ret (v := .tuple #[.agg #[.int .i64 k, .string ⟨(c).toArray⟩, .bool ng, .slice ra rs.length rc, .int .i64 lo, .int .i64 hi, .bool lz, .slice ka ks.length kc], .int .i64 0]) (by simp [results, Try.results30, go_sem, f0, f1, f2, f3, f4, f5, f6, f7]) rfl ?_
        refine ⟨?_, ?_⟩
        · iterate 8 (refine grown_setNew ?_ (by first | omega | (simp; done) | (simp; omega)) _)
          exact hg8
        rw [← HR.out]
        refine ⟨rxc k c ng ra rs.length rc lo hi lz ka ks.length kc, rfl, RxV.mono (S := fun b => w.heap.size ≤ b ∧ b ≠ w.heap.size) (fun b hb _ => hb.1) ?_, ?_⟩
        · iterate 8 (refine RxV.keep (Kept.setLow _ (fun b hb => by have : w.heap.size ≤ b ∧ b ≠ w.heap.size := hb; first | omega | (simp; done) | (simp; omega))) ?_)
          exact HXV.out
        · iterate 8 (refine RdT.setHi ?_ (by first | omega | (simp; done) | (simp; omega)) _)
          exact HRD9.out
    have HT92 := Lib.hid (takeM_ne (r := r1) h92)
    have h94 : c ≠ [94] := fun e => by subst e; simp [edgeM] at he
    have h36 : c ≠ [36] := fun e => by subst e; simp [edgeM] at he
    clear he
    by_cases h42 : c = [42]
    · subst h42
      have HR : Hid (Except.error 10 = R) := Lib.hid hR
      clear hR hp hl
      obtain ⟨w0, hw0⟩ : ∃ w0, w0 = w.alloc (.cells #[.int .i64 0, .string ⟨#[]⟩, .bool false, .slice none 0 0, .int .i64 0, .int .i64 0, .bool false, .slice none 0 0] 26) := ⟨_, rfl⟩
      obtain ⟨hb0, hz0, hby0⟩ := alloc1 w hw0
      have HRD := Lib.hid (h.later hb0)
      rw [hw0] at HRD
      have HW0 := Lib.hid hw0
      have HBY0 := Lib.hid hby0
      have hgg : w.grownBy w0 (some g) := grown_of_below hb0 _
      have hgr : g < w.heap.size := h.lt
      clear hw0 hby0 h
      go_enter Try.func30, Try.ntmps30
      go_wp2_with (go_at_call 25; refine (rtake_no _ _ HRD.out HT46.out).mono ?_)
      rintro e w1 ⟨rfl, hrd1, hq1⟩
      rw [← HW0.out] at hq1
      have hg1 := grown_trans hgg hq1
      have HBY1 := Lib.hid (box_grown HBY0.out hq1 (by omega))
      have hz1 : w0.heap.size ≤ w1.heap.size := hq1.size
      have HRD1 := Lib.hid hrd1
      clear hrd1 hq1
      go_wp2_with (go_at_call 25; refine (rtake_no _ _ HRD1.out HT40.out).mono ?_)
      rintro e w2 ⟨rfl, hrd2, hq2⟩
      have hg2 := grown_trans hg1 hq2
      have HBY2 := Lib.hid (box_grown HBY1.out hq2 (by omega))
      have hz2 : w0.heap.size ≤ w2.heap.size := Nat.le_trans hz1 hq2.size
      have HRD2 := Lib.hid hrd2
      clear hrd2 hq2
      go_wp2_with (go_at_call 25; refine (rtake_no _ _ HRD2.out HT91.out).mono ?_)
      rintro e w3 ⟨rfl, hrd3, hq3⟩
      have hg3 := grown_trans hg2 hq3
      have HBY3 := Lib.hid (box_grown HBY2.out hq3 (by omega))
      have hz3 : w0.heap.size ≤ w3.heap.size := Nat.le_trans hz2 hq3.size
      have HRD3 := Lib.hid hrd3
      clear hrd3 hq3
      go_wp2_with (go_at_call 25; refine (rtake_no _ _ HRD3.out HT92.out).mono ?_)
      rintro e w4 ⟨rfl, hrd4, hq4⟩
      have hg4 := grown_trans hg3 hq4
      have HBY4 := Lib.hid (box_grown HBY3.out hq4 (by omega))
      have hz4 : w0.heap.size ≤ w4.heap.size := Nat.le_trans hz3 hq4.size
      have HRD4 := Lib.hid hrd4
      clear hrd4 hq4
      go_wp2_with (go_at_call 22; refine (rsee_any _ HRD4.out).mono ?_)
      rintro e w5 ⟨rfl, hst⟩
      have hg5 := grown_trans hg4 (hst.grown (some g))
      have HRD5 := Lib.hid (hst.rd HRD4.out)
      have HBY5 := Lib.hid (box_grown HBY4.out (hst.grown (some g)) (by omega))
      have hz5 : w0.heap.size ≤ w5.heap.size := by rw [hst.size]; exact hz4
      clear hst
      rw [hdS_cons]
      obtain ⟨f0, f1, f2, f3, f4, f5, f6, f7, f8⟩ := bx_cells (c := []) HBY5.out
      go_wp2
      refine bodyPost_ret (v := .tuple #[.agg #[.int .i64 0, .string ⟨([]).toArray⟩, .bool false, .slice none 0 0, .int .i64 0, .int .i64 0, .bool false, .slice none 0 0], .int .i64 10]) (by simp [results, Try.results30, go_sem, f0, f1, f2, f3, f4, f5, f6, f7]) rfl ?_
      refine ⟨?_, ?_⟩
      · iterate 8 (refine grown_setNew ?_ (by first | omega | (simp; done) | (simp; omega)) _)
        exact hg5
      · rw [← HR.out]; rfl
    have g42 : (c == [42]) = false := beq_eq_false_iff_ne.2 h42
    by_cases h43 : c = [43]
    · subst h43
      have HR : Hid (Except.error 10 = R) := Lib.hid hR
      clear hR hp hl
      obtain ⟨w0, hw0⟩ : ∃ w0, w0 = w.alloc (.cells #[.int .i64 0, .string ⟨#[]⟩, .bool false, .slice none 0 0, .int .i64 0, .int .i64 0, .bool false, .slice none 0 0] 26) := ⟨_, rfl⟩
      obtain ⟨hb0, hz0, hby0⟩ := alloc1 w hw0
      have HRD := Lib.hid (h.later hb0)
      rw [hw0] at HRD
      have HW0 := Lib.hid hw0
      have HBY0 := Lib.hid hby0
      have hgg : w.grownBy w0 (some g) := grown_of_below hb0 _
      have hgr : g < w.heap.size := h.lt
      clear hw0 hby0 h
      go_enter Try.func30, Try.ntmps30
      go_wp2_with (go_at_call 25; refine (rtake_no _ _ HRD.out HT46.out).mono ?_)
      rintro e w1 ⟨rfl, hrd1, hq1⟩
      rw [← HW0.out] at hq1
      have hg1 := grown_trans hgg hq1
      have HBY1 := Lib.hid (box_grown HBY0.out hq1 (by omega))
      have hz1 : w0.heap.size ≤ w1.heap.size := hq1.size
      have HRD1 := Lib.hid hrd1
      clear hrd1 hq1
      go_wp2_with (go_at_call 25; refine (rtake_no _ _ HRD1.out HT40.out).mono ?_)
      rintro e w2 ⟨rfl, hrd2, hq2⟩
      have hg2 := grown_trans hg1 hq2
      have HBY2 := Lib.hid (box_grown HBY1.out hq2 (by omega))
      have hz2 : w0.heap.size ≤ w2.heap.size := Nat.le_trans hz1 hq2.size
      have HRD2 := Lib.hid hrd2
      clear hrd2 hq2
      go_wp2_with (go_at_call 25; refine (rtake_no _ _ HRD2.out HT91.out).mono ?_)
      rintro e w3 ⟨rfl, hrd3, hq3⟩
      have hg3 := grown_trans hg2 hq3
      have HBY3 := Lib.hid (box_grown HBY2.out hq3 (by omega))
      have hz3 : w0.heap.size ≤ w3.heap.size := Nat.le_trans hz2 hq3.size
      have HRD3 := Lib.hid hrd3
      clear hrd3 hq3
      go_wp2_with (go_at_call 25; refine (rtake_no _ _ HRD3.out HT92.out).mono ?_)
      rintro e w4 ⟨rfl, hrd4, hq4⟩
      have hg4 := grown_trans hg3 hq4
      have HBY4 := Lib.hid (box_grown HBY3.out hq4 (by omega))
      have hz4 : w0.heap.size ≤ w4.heap.size := Nat.le_trans hz3 hq4.size
      have HRD4 := Lib.hid hrd4
      clear hrd4 hq4
      go_wp2_with (go_at_call 22; refine (rsee_any _ HRD4.out).mono ?_)
      rintro e w5 ⟨rfl, hst⟩
      have hg5 := grown_trans hg4 (hst.grown (some g))
      have HRD5 := Lib.hid (hst.rd HRD4.out)
      have HBY5 := Lib.hid (box_grown HBY4.out (hst.grown (some g)) (by omega))
      have hz5 : w0.heap.size ≤ w5.heap.size := by rw [hst.size]; exact hz4
      clear hst
      rw [hdS_cons]
      obtain ⟨f0, f1, f2, f3, f4, f5, f6, f7, f8⟩ := bx_cells (c := []) HBY5.out
      go_wp2
      refine bodyPost_ret (v := .tuple #[.agg #[.int .i64 0, .string ⟨([]).toArray⟩, .bool false, .slice none 0 0, .int .i64 0, .int .i64 0, .bool false, .slice none 0 0], .int .i64 10]) (by simp [results, Try.results30, go_sem, f0, f1, f2, f3, f4, f5, f6, f7]) rfl ?_
      refine ⟨?_, ?_⟩
      · iterate 8 (refine grown_setNew ?_ (by first | omega | (simp; done) | (simp; omega)) _)
        exact hg5
      · rw [← HR.out]; rfl
    have g43 : (c == [43]) = false := beq_eq_false_iff_ne.2 h43
    by_cases h63 : c = [63]
    · subst h63
      have HR : Hid (Except.error 10 = R) := Lib.hid hR
      clear hR hp hl
      obtain ⟨w0, hw0⟩ : ∃ w0, w0 = w.alloc (.cells #[.int .i64 0, .string ⟨#[]⟩, .bool false, .slice none 0 0, .int .i64 0, .int .i64 0, .bool false, .slice none 0 0] 26) := ⟨_, rfl⟩
      obtain ⟨hb0, hz0, hby0⟩ := alloc1 w hw0
      have HRD := Lib.hid (h.later hb0)
      rw [hw0] at HRD
      have HW0 := Lib.hid hw0
      have HBY0 := Lib.hid hby0
      have hgg : w.grownBy w0 (some g) := grown_of_below hb0 _
      have hgr : g < w.heap.size := h.lt
      clear hw0 hby0 h
      go_enter Try.func30, Try.ntmps30
      go_wp2_with (go_at_call 25; refine (rtake_no _ _ HRD.out HT46.out).mono ?_)
      rintro e w1 ⟨rfl, hrd1, hq1⟩
      rw [← HW0.out] at hq1
      have hg1 := grown_trans hgg hq1
      have HBY1 := Lib.hid (box_grown HBY0.out hq1 (by omega))
      have hz1 : w0.heap.size ≤ w1.heap.size := hq1.size
      have HRD1 := Lib.hid hrd1
      clear hrd1 hq1
      go_wp2_with (go_at_call 25; refine (rtake_no _ _ HRD1.out HT40.out).mono ?_)
      rintro e w2 ⟨rfl, hrd2, hq2⟩
      have hg2 := grown_trans hg1 hq2
      have HBY2 := Lib.hid (box_grown HBY1.out hq2 (by omega))
      have hz2 : w0.heap.size ≤ w2.heap.size := Nat.le_trans hz1 hq2.size
      have HRD2 := Lib.hid hrd2
      clear hrd2 hq2
      go_wp2_with (go_at_call 25; refine (rtake_no _ _ HRD2.out HT91.out).mono ?_)
      rintro e w3 ⟨rfl, hrd3, hq3⟩
      have hg3 := grown_trans hg2 hq3
      have HBY3 := Lib.hid (box_grown HBY2.out hq3 (by omega))
      have hz3 : w0.heap.size ≤ w3.heap.size := Nat.le_trans hz2 hq3.size
      have HRD3 := Lib.hid hrd3
      clear hrd3 hq3
      go_wp2_with (go_at_call 25; refine (rtake_no _ _ HRD3.out HT92.out).mono ?_)
      rintro e w4 ⟨rfl, hrd4, hq4⟩
      have hg4 := grown_trans hg3 hq4
      have HBY4 := Lib.hid (box_grown HBY3.out hq4 (by omega))
      have hz4 : w0.heap.size ≤ w4.heap.size := Nat.le_trans hz3 hq4.size
      have HRD4 := Lib.hid hrd4
      clear hrd4 hq4
      go_wp2_with (go_at_call 22; refine (rsee_any _ HRD4.out).mono ?_)
      rintro e w5 ⟨rfl, hst⟩
      have hg5 := grown_trans hg4 (hst.grown (some g))
      have HRD5 := Lib.hid (hst.rd HRD4.out)
      have HBY5 := Lib.hid (box_grown HBY4.out (hst.grown (some g)) (by omega))
      have hz5 : w0.heap.size ≤ w5.heap.size := by rw [hst.size]; exact hz4
      clear hst
      rw [hdS_cons]
      obtain ⟨f0, f1, f2, f3, f4, f5, f6, f7, f8⟩ := bx_cells (c := []) HBY5.out
      go_wp2
      refine bodyPost_ret (v := .tuple #[.agg #[.int .i64 0, .string ⟨([]).toArray⟩, .bool false, .slice none 0 0, .int .i64 0, .int .i64 0, .bool false, .slice none 0 0], .int .i64 10]) (by simp [results, Try.results30, go_sem, f0, f1, f2, f3, f4, f5, f6, f7]) rfl ?_
      refine ⟨?_, ?_⟩
      · iterate 8 (refine grown_setNew ?_ (by first | omega | (simp; done) | (simp; omega)) _)
        exact hg5
      · rw [← HR.out]; rfl
    have g63 : (c == [63]) = false := beq_eq_false_iff_ne.2 h63
    by_cases h41 : c = [41]
    · subst h41
      have HR : Hid (Except.error 10 = R) := Lib.hid hR
      clear hR hp hl
      obtain ⟨w0, hw0⟩ : ∃ w0, w0 = w.alloc (.cells #[.int .i64 0, .string ⟨#[]⟩, .bool false, .slice none 0 0, .int .i64 0, .int .i64 0, .bool false, .slice none 0 0] 26) := ⟨_, rfl⟩
      obtain ⟨hb0, hz0, hby0⟩ := alloc1 w hw0
      have HRD := Lib.hid (h.later hb0)
      rw [hw0] at HRD
      have HW0 := Lib.hid hw0
      have HBY0 := Lib.hid hby0
      have hgg : w.grownBy w0 (some g) := grown_of_below hb0 _
      have hgr : g < w.heap.size := h.lt
      clear hw0 hby0 h
      go_enter Try.func30, Try.ntmps30
      go_wp2_with (go_at_call 25; refine (rtake_no _ _ HRD.out HT46.out).mono ?_)
      rintro e w1 ⟨rfl, hrd1, hq1⟩
      rw [← HW0.out] at hq1
      have hg1 := grown_trans hgg hq1
      have HBY1 := Lib.hid (box_grown HBY0.out hq1 (by omega))
      have hz1 : w0.heap.size ≤ w1.heap.size := hq1.size
      have HRD1 := Lib.hid hrd1
      clear hrd1 hq1
      go_wp2_with (go_at_call 25; refine (rtake_no _ _ HRD1.out HT40.out).mono ?_)
      rintro e w2 ⟨rfl, hrd2, hq2⟩
      have hg2 := grown_trans hg1 hq2
      have HBY2 := Lib.hid (box_grown HBY1.out hq2 (by omega))
      have hz2 : w0.heap.size ≤ w2.heap.size := Nat.le_trans hz1 hq2.size
      have HRD2 := Lib.hid hrd2
      clear hrd2 hq2
      go_wp2_with (go_at_call 25; refine (rtake_no _ _ HRD2.out HT91.out).mono ?_)
      rintro e w3 ⟨rfl, hrd3, hq3⟩
      have hg3 := grown_trans hg2 hq3
      have HBY3 := Lib.hid (box_grown HBY2.out hq3 (by omega))
      have hz3 : w0.heap.size ≤ w3.heap.size := Nat.le_trans hz2 hq3.size
      have HRD3 := Lib.hid hrd3
      clear hrd3 hq3
      go_wp2_with (go_at_call 25; refine (rtake_no _ _ HRD3.out HT92.out).mono ?_)
      rintro e w4 ⟨rfl, hrd4, hq4⟩
      have hg4 := grown_trans hg3 hq4
      have HBY4 := Lib.hid (box_grown HBY3.out hq4 (by omega))
      have hz4 : w0.heap.size ≤ w4.heap.size := Nat.le_trans hz3 hq4.size
      have HRD4 := Lib.hid hrd4
      clear hrd4 hq4
      go_wp2_with (go_at_call 22; refine (rsee_any _ HRD4.out).mono ?_)
      rintro e w5 ⟨rfl, hst⟩
      have hg5 := grown_trans hg4 (hst.grown (some g))
      have HRD5 := Lib.hid (hst.rd HRD4.out)
      have HBY5 := Lib.hid (box_grown HBY4.out (hst.grown (some g)) (by omega))
      have hz5 : w0.heap.size ≤ w5.heap.size := by rw [hst.size]; exact hz4
      clear hst
      rw [hdS_cons]
      obtain ⟨f0, f1, f2, f3, f4, f5, f6, f7, f8⟩ := bx_cells (c := []) HBY5.out
      go_wp2
      refine bodyPost_ret (v := .tuple #[.agg #[.int .i64 0, .string ⟨([]).toArray⟩, .bool false, .slice none 0 0, .int .i64 0, .int .i64 0, .bool false, .slice none 0 0], .int .i64 10]) (by simp [results, Try.results30, go_sem, f0, f1, f2, f3, f4, f5, f6, f7]) rfl ?_
      refine ⟨?_, ?_⟩
      · iterate 8 (refine grown_setNew ?_ (by first | omega | (simp; done) | (simp; omega)) _)
        exact hg5
      · rw [← HR.out]; rfl
    have g41 : (c == [41]) = false := beq_eq_false_iff_ne.2 h41
    by_cases h123 : c = [123]
    · subst h123
      have HR : Hid (Except.error 10 = R) := Lib.hid hR
      clear hR hp hl
      obtain ⟨w0, hw0⟩ : ∃ w0, w0 = w.alloc (.cells #[.int .i64 0, .string ⟨#[]⟩, .bool false, .slice none 0 0, .int .i64 0, .int .i64 0, .bool false, .slice none 0 0] 26) := ⟨_, rfl⟩
      obtain ⟨hb0, hz0, hby0⟩ := alloc1 w hw0
      have HRD := Lib.hid (h.later hb0)
      rw [hw0] at HRD
      have HW0 := Lib.hid hw0
      have HBY0 := Lib.hid hby0
      have hgg : w.grownBy w0 (some g) := grown_of_below hb0 _
      have hgr : g < w.heap.size := h.lt
      clear hw0 hby0 h
      go_enter Try.func30, Try.ntmps30
      go_wp2_with (go_at_call 25; refine (rtake_no _ _ HRD.out HT46.out).mono ?_)
      rintro e w1 ⟨rfl, hrd1, hq1⟩
      rw [← HW0.out] at hq1
      have hg1 := grown_trans hgg hq1
      have HBY1 := Lib.hid (box_grown HBY0.out hq1 (by omega))
      have hz1 : w0.heap.size ≤ w1.heap.size := hq1.size
      have HRD1 := Lib.hid hrd1
      clear hrd1 hq1
      go_wp2_with (go_at_call 25; refine (rtake_no _ _ HRD1.out HT40.out).mono ?_)
      rintro e w2 ⟨rfl, hrd2, hq2⟩
      have hg2 := grown_trans hg1 hq2
      have HBY2 := Lib.hid (box_grown HBY1.out hq2 (by omega))
      have hz2 : w0.heap.size ≤ w2.heap.size := Nat.le_trans hz1 hq2.size
      have HRD2 := Lib.hid hrd2
      clear hrd2 hq2
      go_wp2_with (go_at_call 25; refine (rtake_no _ _ HRD2.out HT91.out).mono ?_)
      rintro e w3 ⟨rfl, hrd3, hq3⟩
      have hg3 := grown_trans hg2 hq3
      have HBY3 := Lib.hid (box_grown HBY2.out hq3 (by omega))
      have hz3 : w0.heap.size ≤ w3.heap.size := Nat.le_trans hz2 hq3.size
      have HRD3 := Lib.hid hrd3
      clear hrd3 hq3
      go_wp2_with (go_at_call 25; refine (rtake_no _ _ HRD3.out HT92.out).mono ?_)
      rintro e w4 ⟨rfl, hrd4, hq4⟩
      have hg4 := grown_trans hg3 hq4
      have HBY4 := Lib.hid (box_grown HBY3.out hq4 (by omega))
      have hz4 : w0.heap.size ≤ w4.heap.size := Nat.le_trans hz3 hq4.size
      have HRD4 := Lib.hid hrd4
      clear hrd4 hq4
      go_wp2_with (go_at_call 22; refine (rsee_any _ HRD4.out).mono ?_)
      rintro e w5 ⟨rfl, hst⟩
      have hg5 := grown_trans hg4 (hst.grown (some g))
      have HRD5 := Lib.hid (hst.rd HRD4.out)
      have HBY5 := Lib.hid (box_grown HBY4.out (hst.grown (some g)) (by omega))
      have hz5 : w0.heap.size ≤ w5.heap.size := by rw [hst.size]; exact hz4
      clear hst
      rw [hdS_cons]
      obtain ⟨f0, f1, f2, f3, f4, f5, f6, f7, f8⟩ := bx_cells (c := []) HBY5.out
      go_wp2
      refine bodyPost_ret (v := .tuple #[.agg #[.int .i64 0, .string ⟨([]).toArray⟩, .bool false, .slice none 0 0, .int .i64 0, .int .i64 0, .bool false, .slice none 0 0], .int .i64 10]) (by simp [results, Try.results30, go_sem, f0, f1, f2, f3, f4, f5, f6, f7]) rfl ?_
      refine ⟨?_, ?_⟩
      · iterate 8 (refine grown_setNew ?_ (by first | omega | (simp; done) | (simp; omega)) _)
        exact hg5
      · rw [← HR.out]; rfl
    have g123 : (c == [123]) = false := beq_eq_false_iff_ne.2 h123
    by_cases h124 : c = [124]
    · subst h124
      have HR : Hid (Except.error 10 = R) := Lib.hid hR
      clear hR hp hl
      obtain ⟨w0, hw0⟩ : ∃ w0, w0 = w.alloc (.cells #[.int .i64 0, .string ⟨#[]⟩, .bool false, .slice none 0 0, .int .i64 0, .int .i64 0, .bool false, .slice none 0 0] 26) := ⟨_, rfl⟩
      obtain ⟨hb0, hz0, hby0⟩ := alloc1 w hw0
      have HRD := Lib.hid (h.later hb0)
      rw [hw0] at HRD
      have HW0 := Lib.hid hw0
      have HBY0 := Lib.hid hby0
      have hgg : w.grownBy w0 (some g) := grown_of_below hb0 _
      have hgr : g < w.heap.size := h.lt
      clear hw0 hby0 h
      go_enter Try.func30, Try.ntmps30
      go_wp2_with (go_at_call 25; refine (rtake_no _ _ HRD.out HT46.out).mono ?_)
      rintro e w1 ⟨rfl, hrd1, hq1⟩
      rw [← HW0.out] at hq1
      have hg1 := grown_trans hgg hq1
      have HBY1 := Lib.hid (box_grown HBY0.out hq1 (by omega))
      have hz1 : w0.heap.size ≤ w1.heap.size := hq1.size
      have HRD1 := Lib.hid hrd1
      clear hrd1 hq1
      go_wp2_with (go_at_call 25; refine (rtake_no _ _ HRD1.out HT40.out).mono ?_)
      rintro e w2 ⟨rfl, hrd2, hq2⟩
      have hg2 := grown_trans hg1 hq2
      have HBY2 := Lib.hid (box_grown HBY1.out hq2 (by omega))
      have hz2 : w0.heap.size ≤ w2.heap.size := Nat.le_trans hz1 hq2.size
      have HRD2 := Lib.hid hrd2
      clear hrd2 hq2
      go_wp2_with (go_at_call 25; refine (rtake_no _ _ HRD2.out HT91.out).mono ?_)
      rintro e w3 ⟨rfl, hrd3, hq3⟩
      have hg3 := grown_trans hg2 hq3
      have HBY3 := Lib.hid (box_grown HBY2.out hq3 (by omega))
      have hz3 : w0.heap.size ≤ w3.heap.size := Nat.le_trans hz2 hq3.size
      have HRD3 := Lib.hid hrd3
      clear hrd3 hq3
      go_wp2_with (go_at_call 25; refine (rtake_no _ _ HRD3.out HT92.out).mono ?_)
      rintro e w4 ⟨rfl, hrd4, hq4⟩
      have hg4 := grown_trans hg3 hq4
      have HBY4 := Lib.hid (box_grown HBY3.out hq4 (by omega))
      have hz4 : w0.heap.size ≤ w4.heap.size := Nat.le_trans hz3 hq4.size
      have HRD4 := Lib.hid hrd4
      clear hrd4 hq4
      go_wp2_with (go_at_call 22; refine (rsee_any _ HRD4.out).mono ?_)
      rintro e w5 ⟨rfl, hst⟩
      have hg5 := grown_trans hg4 (hst.grown (some g))
      have HRD5 := Lib.hid (hst.rd HRD4.out)
      have HBY5 := Lib.hid (box_grown HBY4.out (hst.grown (some g)) (by omega))
      have hz5 : w0.heap.size ≤ w5.heap.size := by rw [hst.size]; exact hz4
      clear hst
      rw [hdS_cons]
      obtain ⟨f0, f1, f2, f3, f4, f5, f6, f7, f8⟩ := bx_cells (c := []) HBY5.out
      go_wp2
      refine bodyPost_ret (v := .tuple #[.agg #[.int .i64 0, .string ⟨([]).toArray⟩, .bool false, .slice none 0 0, .int .i64 0, .int .i64 0, .bool false, .slice none 0 0], .int .i64 10]) (by simp [results, Try.results30, go_sem, f0, f1, f2, f3, f4, f5, f6, f7]) rfl ?_
      refine ⟨?_, ?_⟩
      · iterate 8 (refine grown_setNew ?_ (by first | omega | (simp; done) | (simp; omega)) _)
        exact hg5
      · rw [← HR.out]; rfl
    have g124 : (c == [124]) = false := beq_eq_false_iff_ne.2 h124
    cases hpc : properB c with
    | false =>
      have HR : Hid (Except.error 10 = R) := Lib.hid (by rw [← hR]; simp [atomP, noAtom, h46, h40, h91, h92, h42, h43, h63, h41, h123, h124, h94, h36, hpc])
      have HPR := Lib.hid (fun w => RProper_any c w hcl)
      rw [hpc] at HPR
      clear hR hp hl h46 h40 h91 h92 h42 h43 h63 h41 h123 h124 h94 h36 hc hpc
      obtain ⟨w0, hw0⟩ : ∃ w0, w0 = w.alloc (.cells #[.int .i64 0, .string ⟨#[]⟩, .bool false, .slice none 0 0, .int .i64 0, .int .i64 0, .bool false, .slice none 0 0] 26) := ⟨_, rfl⟩
      obtain ⟨hb0, hz0, hby0⟩ := alloc1 w hw0
      have HRD := Lib.hid (h.later hb0)
      rw [hw0] at HRD
      have HW0 := Lib.hid hw0
      have HBY0 := Lib.hid hby0
      have hgg : w.grownBy w0 (some g) := grown_of_below hb0 _
      have hgr : g < w.heap.size := h.lt
      clear hw0 hby0 h
      go_enter Try.func30, Try.ntmps30
      go_wp2_with (go_at_call 25; refine (rtake_no _ _ HRD.out HT46.out).mono ?_)
      rintro e w1 ⟨rfl, hrd1, hq1⟩
      rw [← HW0.out] at hq1
      have hg1 := grown_trans hgg hq1
      have HBY1 := Lib.hid (box_grown HBY0.out hq1 (by omega))
      have hz1 : w0.heap.size ≤ w1.heap.size := hq1.size
      have HRD1 := Lib.hid hrd1
      clear hrd1 hq1
      go_wp2_with (go_at_call 25; refine (rtake_no _ _ HRD1.out HT40.out).mono ?_)
      rintro e w2 ⟨rfl, hrd2, hq2⟩
      have hg2 := grown_trans hg1 hq2
      have HBY2 := Lib.hid (box_grown HBY1.out hq2 (by omega))
      have hz2 : w0.heap.size ≤ w2.heap.size := Nat.le_trans hz1 hq2.size
      have HRD2 := Lib.hid hrd2
      clear hrd2 hq2
      go_wp2_with (go_at_call 25; refine (rtake_no _ _ HRD2.out HT91.out).mono ?_)
      rintro e w3 ⟨rfl, hrd3, hq3⟩
      have hg3 := grown_trans hg2 hq3
      have HBY3 := Lib.hid (box_grown HBY2.out hq3 (by omega))
      have hz3 : w0.heap.size ≤ w3.heap.size := Nat.le_trans hz2 hq3.size
      have HRD3 := Lib.hid hrd3
      clear hrd3 hq3
      go_wp2_with (go_at_call 25; refine (rtake_no _ _ HRD3.out HT92.out).mono ?_)
      rintro e w4 ⟨rfl, hrd4, hq4⟩
      have hg4 := grown_trans hg3 hq4
      have HBY4 := Lib.hid (box_grown HBY3.out hq4 (by omega))
      have hz4 : w0.heap.size ≤ w4.heap.size := Nat.le_trans hz3 hq4.size
      have HRD4 := Lib.hid hrd4
      clear hrd4 hq4
      go_wp2_with (go_at_call 22; refine (rsee_any _ HRD4.out).mono ?_)
      rintro e w5 ⟨rfl, hst⟩
      have hg5 := grown_trans hg4 (hst.grown (some g))
      have HRD5 := Lib.hid (hst.rd HRD4.out)
      have HBY5 := Lib.hid (box_grown HBY4.out (hst.grown (some g)) (by omega))
      have hz5 : w0.heap.size ≤ w5.heap.size := by rw [hst.size]; exact hz4
      clear hst
      rw [hdS_cons]
      go_wp2_with (go_at_call 42; refine (HPR.out _).mono ?_)
      first | rintro e w6 rfl hb6 | rintro e w6 ⟨rfl, hb6⟩
      have hg6 := grown_trans hg5 (grown_of_below hb6 (some g))
      obtain ⟨f0, f1, f2, f3, f4, f5, f6, f7, f8⟩ := bx_cells (c := []) ((hb6.block _ (heap_lt HBY5.out)).trans HBY5.out)
      go_wp2
      refine bodyPost_ret (v := .tuple #[.agg #[.int .i64 0, .string ⟨([]).toArray⟩, .bool false, .slice none 0 0, .int .i64 0, .int .i64 0, .bool false, .slice none 0 0], .int .i64 10]) (by simp [results, Try.results30, go_sem, f0, f1, f2, f3, f4, f5, f6, f7]) rfl ?_
      refine ⟨?_, ?_⟩
      · iterate 8 (refine grown_setNew ?_ (by first | omega | (simp; done) | (simp; omega)) _)
        exact hg6
      · rw [← HR.out]; rfl
    | true =>
      have HR : Hid (Except.ok (chrR c, r1) = R) := Lib.hid (by rw [← hR]; simp [atomP, noAtom, h46, h40, h91, h92, h42, h43, h63, h41, h123, h124, h94, h36, hpc])
      have HPR := Lib.hid (fun w => RProper_any c w hcl)
      rw [hpc] at HPR
      clear hR hp hl h46 h40 h91 h92 h42 h43 h63 h41 h123 h124 h94 h36 hc hpc
      obtain ⟨w0, hw0⟩ : ∃ w0, w0 = w.alloc (.cells #[.int .i64 0, .string ⟨#[]⟩, .bool false, .slice none 0 0, .int .i64 0, .int .i64 0, .bool false, .slice none 0 0] 26) := ⟨_, rfl⟩
      obtain ⟨hb0, hz0, hby0⟩ := alloc1 w hw0
      have HRD := Lib.hid (h.later hb0)
      rw [hw0] at HRD
      have HW0 := Lib.hid hw0
      have HBY0 := Lib.hid hby0
      have hgg : w.grownBy w0 (some g) := grown_of_below hb0 _
      have hgr : g < w.heap.size := h.lt
      clear hw0 hby0 h
      go_enter Try.func30, Try.ntmps30
      go_wp2_with (go_at_call 25; refine (rtake_no _ _ HRD.out HT46.out).mono ?_)
      rintro e w1 ⟨rfl, hrd1, hq1⟩
      rw [← HW0.out] at hq1
      have hg1 := grown_trans hgg hq1
      have HBY1 := Lib.hid (box_grown HBY0.out hq1 (by omega))
      have hz1 : w0.heap.size ≤ w1.heap.size := hq1.size
      have HRD1 := Lib.hid hrd1
      clear hrd1 hq1
      go_wp2_with (go_at_call 25; refine (rtake_no _ _ HRD1.out HT40.out).mono ?_)
      rintro e w2 ⟨rfl, hrd2, hq2⟩
      have hg2 := grown_trans hg1 hq2
      have HBY2 := Lib.hid (box_grown HBY1.out hq2 (by omega))
      have hz2 : w0.heap.size ≤ w2.heap.size := Nat.le_trans hz1 hq2.size
      have HRD2 := Lib.hid hrd2
      clear hrd2 hq2
      go_wp2_with (go_at_call 25; refine (rtake_no _ _ HRD2.out HT91.out).mono ?_)
      rintro e w3 ⟨rfl, hrd3, hq3⟩
      have hg3 := grown_trans hg2 hq3
      have HBY3 := Lib.hid (box_grown HBY2.out hq3 (by omega))
      have hz3 : w0.heap.size ≤ w3.heap.size := Nat.le_trans hz2 hq3.size
      have HRD3 := Lib.hid hrd3
      clear hrd3 hq3
      go_wp2_with (go_at_call 25; refine (rtake_no _ _ HRD3.out HT92.out).mono ?_)
      rintro e w4 ⟨rfl, hrd4, hq4⟩
      have hg4 := grown_trans hg3 hq4
      have HBY4 := Lib.hid (box_grown HBY3.out hq4 (by omega))
      have hz4 : w0.heap.size ≤ w4.heap.size := Nat.le_trans hz3 hq4.size
      have HRD4 := Lib.hid hrd4
      clear hrd4 hq4
      go_wp2_with (go_at_call 22; refine (rsee_any _ HRD4.out).mono ?_)
      rintro e w5 ⟨rfl, hst⟩
      have hg5 := grown_trans hg4 (hst.grown (some g))
      have HRD5 := Lib.hid (hst.rd HRD4.out)
      have HBY5 := Lib.hid (box_grown HBY4.out (hst.grown (some g)) (by omega))
      have hz5 : w0.heap.size ≤ w5.heap.size := by rw [hst.size]; exact hz4
      clear hst
      rw [hdS_cons]
      go_wp2_with (go_at_call 42; refine (HPR.out _).mono ?_)
      first | rintro e w6 rfl hb6 | rintro e w6 ⟨rfl, hb6⟩
      have hg6 := grown_trans hg5 (grown_of_below hb6 (some g))
      have HBY6 := Lib.hid ((hb6.block _ (heap_lt HBY5.out)).trans HBY5.out)
      obtain ⟨i, hi, c1, hf, hr7⟩ := (HRD5.out.later hb6).step
      have HRD7 := Lib.hid hr7
      have hg7 := grown_set hg6 1 (.int .i64 ((i : Int) + 1))
      obtain ⟨f0, f1, f2, f3, f4, f5, f6, f7, f8⟩ := bx_cells (c := []) HBY6.out
      clear hr7 hb6
      go_wp2
      refine bodyPost_ret (v := .tuple #[.agg #[.int .i64 2, .string ⟨(c).toArray⟩, .bool false, .slice none ([] : List Row).length 0, .int .i64 0, .int .i64 0, .bool false, .slice none ([] : List Rx).length 0], .int .i64 0]) (by simp [results, Try.results30, go_sem, f0, f1, f2, f3, f4, f5, f6, f7]) rfl ?_
      refine ⟨?_, ?_⟩
      · iterate 8 (refine grown_setNew ?_ (by first | omega | (simp; done) | (simp; omega)) _)
        exact hg7
      rw [← HR.out]
      refine ⟨rxc 2 c false none ([] : List Row).length 0 0 0 false none ([] : List Rx).length 0, rfl, RxV.mono (S := fun b => w.heap.size ≤ b ∧ b ≠ w.heap.size) (fun b hb _ => hb.1) ?_, ?_⟩
      · iterate 8 (refine RxV.keep (Kept.setLow _ (fun b hb => by have : w.heap.size ≤ b ∧ b ≠ w.heap.size := hb; first | omega | (simp; done) | (simp; omega))) ?_)
        exact (RxV.close (SlS.none_ _ _ _ _) ⟨[], SlS.none_ _ _ _ _, .nil⟩)
      · iterate 8 (refine RdT.setHi ?_ (by first | omega | (simp; done) | (simp; omega)) _)
        exact HRD7.out
end Go.Proofs.Ytemophfieihgaaa
set_option maxRecDepth 100000
namespace Go.Proofs.Ytemophfieihgaaa
open Go.RowKit
/- another character than a backslash stands there, or none -/
/- a backslash, at the end -/
/- a backslash, ahead of another character -/
set_option maxHeartbeats 4000000 in
theorem rterm_any {n : Nat} (hp : PatQ n) {g d : Nat} {r : List Str} (w : World) (h : Rd2 w g r) (hlen : r.length ≤ n) (hd : d ≤ 16) :
    Calls Try.prog 23 #[.pointer (some ⟨g, 0, none⟩), .int .i64 d] w fun e w' => ResQ g w.heap.size w (termP (patP n) r d) e w' := by
  obtain ⟨R, hR⟩ : ∃ R, termP (patP n) r d = R := ⟨_, rfl⟩
  rw [hR]
  unfold termP at hR
  have HP := Lib.hid hp
  clear hp
  cases r with
  | nil =>
    have HR : Hid ((match atomP (patP n) [] d with | .error e => .error e | .ok (x, r1) => quantM x r1) = R) := Lib.hid hR
    have HE : Hid (edgeM [] = none) := Lib.hid rfl
    have HT94 : Hid (takeM [94] ([] : List Str) = none) := Lib.hid rfl
    have HT36 : Hid (takeM [36] ([] : List Str) = none) := Lib.hid rfl
    clear hR
    obtain ⟨w0, hw0⟩ : ∃ w0, w0 = w.alloc (.cells #[.int .i64 0, .string ⟨#[]⟩, .bool false, .slice none 0 0, .int .i64 0, .int .i64 0, .bool false, .slice none 0 0] 26) := ⟨_, rfl⟩
    obtain ⟨hb0, hz0, hby0⟩ := alloc1 w hw0
    have HRD := Lib.hid (h.later hb0)
    rw [hw0] at HRD
    have HW0 := Lib.hid hw0
    have HBY0 := Lib.hid hby0
    have hgg : w.grownBy w0 (some g) := grown_of_below hb0 _
    have hgr : g < w.heap.size := h.lt
    clear hw0 hby0 h
    go_enter Try.func23, Try.ntmps23
    go_wp2_with (go_at_call 25; refine (rtake_no _ _ HRD.out HT94.out).mono ?_)
    rintro e w1 ⟨rfl, hrd1, hq1⟩
    rw [← HW0.out] at hq1
    have hg1 := grown_trans hgg hq1
    have HBY1 := Lib.hid (box_grown HBY0.out hq1 (by omega))
    have hz1 : w0.heap.size ≤ w1.heap.size := hq1.size
    have HRD1 := Lib.hid hrd1
    clear hrd1 hq1
    go_wp2_with (go_at_call 25; refine (rtake_no _ _ HRD1.out HT36.out).mono ?_)
    rintro e w2 ⟨rfl, hrd2, hq2⟩
    have hg2 := grown_trans hg1 hq2
    have HBY2 := Lib.hid (box_grown HBY1.out hq2 (by omega))
    have hz2 : w0.heap.size ≤ w2.heap.size := Nat.le_trans hz1 hq2.size
    have HRD2 := Lib.hid hrd2
    clear hrd2 hq2
    have HSEE : Hid (∀ x : ExtOf w2, Calls Try.prog 22 #[.pointer (some ⟨g, 0, none⟩)] x.val fun e w' => e = .returned (.string ⟨((([] : Str))).toArray⟩) ∧ Below x.val.heap.size x.val w') := Lib.hid fun x => (rsee_any _ (HRD2.out.later x.ext)).mono fun _ _ ⟨h1, h2⟩ => ⟨by rw [h1]; rfl, h2.below _⟩
    go_upto_region 5 with fail
    refine wp_region_ext (by kernel_rfl) (by kernel_rfl) ?_
    repeat (go_big_quiet_step ((go_at_call 22; exact ext_call (HSEE.out _))))
    refine wpQuiet_nil ?_
    rintro _ ⟨xq, rfl⟩
    clear HSEE
    obtain ⟨w3, hw3⟩ : ∃ w3, w3 = xq.val := ⟨_, rfl⟩
    have hb3 : Below w2.heap.size w2 w3 := hw3 ▸ xq.ext
    rw [← hw3]
    have HRD3 := Lib.hid (HRD2.out.later hb3)
    have HBY3 := Lib.hid ((hb3.block _ (heap_lt HBY2.out)).trans HBY2.out)
    have hg3 := grown_trans hg2 (grown_of_below hb3 (some g))
    have hz3 : w0.heap.size ≤ w3.heap.size := Nat.le_trans hz2 hb3.size
    clear hw3 hb3 HRD2 HBY2 hg2
    have HSEE : Hid (∀ x : ExtOf w3, Calls Try.prog 22 #[.pointer (some ⟨g, 0, none⟩)] x.val fun e w' => e = .returned (.string ⟨((([] : Str))).toArray⟩) ∧ Below x.val.heap.size x.val w') := Lib.hid fun x => (rsee_any _ (HRD3.out.later x.ext)).mono fun _ _ ⟨h1, h2⟩ => ⟨by rw [h1]; rfl, h2.below _⟩
    go_upto_region 8 with fail
    refine wp_region_ext (by kernel_rfl) (by kernel_rfl) ?_
    repeat (go_big_quiet_step ((go_at_call 22; exact ext_call (HSEE.out _))))
    refine wpQuiet_nil ?_
    rintro _ ⟨xq, rfl⟩
    clear HSEE
    obtain ⟨w4, hw4⟩ : ∃ w4, w4 = xq.val := ⟨_, rfl⟩
    have hb4 : Below w3.heap.size w3 w4 := hw4 ▸ xq.ext
    rw [← hw4]
    have HRD4 := Lib.hid (HRD3.out.later hb4)
    have HBY4 := Lib.hid ((hb4.block _ (heap_lt HBY3.out)).trans HBY3.out)
    have hg4 := grown_trans hg3 (grown_of_below hb4 (some g))
    have hz4 : w0.heap.size ≤ w4.heap.size := Nat.le_trans hz3 hb4.size
    clear hw4 hb4 HRD3 HBY3 hg3
    have HAT := Lib.hid (ratom_any HP.out w4 HRD4.out hlen hd HE.out)
    go_wp2_with (go_at_call 30; refine HAT.out.mono ?_)
    rintro e w5 hq
    clear HAT
    cases hat : atomP (patP n) (([] : List Str)) d with
    | error q =>
      rw [hat] at hq
      obtain ⟨hq5, rfl⟩ := hq
      have hq0 : q ≠ 0 := atomP_err (patP_err n) (([] : List Str)) d q hat
      have HR2 : Hid (Except.error q = R) := Lib.hid (by rw [← HR.out]; simp only [hat])
      have HR := HR2
      have hg5 := grown_trans hg4 hq5
      have hby5 := box_grown HBY4.out hq5 (by omega)
      have hb6 : Below w5.heap.size w5 (w5.alloc (.cells #[.int .i64 0, .string ⟨#[]⟩, .bool false, .slice none 0 0, .int .i64 0, .int .i64 0, .bool false, .slice none 0 0] 26)) := (Below.refl _ _).alloc (Nat.le_refl _) _
      have hg6 := grown_trans hg5 (grown_of_below hb6 (some g))
      have ne1 : (q != 0) = true := by simp [bne, hq0]
      obtain ⟨f0, f1, f2, f3, f4, f5, f6, f7, f8⟩ := bx_cells (c := []) ((hb6.block _ (heap_lt hby5)).trans hby5)
      clear hat hby5 hb6 hq5
      unfold rxv0
      go_wp2
      refine bodyPost_ret (v := .tuple #[.agg #[.int .i64 0, .string ⟨([]).toArray⟩, .bool false, .slice none 0 0, .int .i64 0, .int .i64 0, .bool false, .slice none 0 0], .int .i64 q]) (by simp [results, Try.results23, go_sem, f0, f1, f2, f3, f4, f5, f6, f7]) rfl ?_
      refine ⟨?_, ?_⟩
      · iterate 8 (refine grown_setNew ?_ (by first | omega | (simp; done) | (simp; omega)) _)
        exact hg6
      · rw [← HR.out]; rfl
    | ok y =>
      obtain ⟨x, r3⟩ := y
      rw [hat] at hq
      obtain ⟨hq5, cc, rfl, hxv, hrd5⟩ := hq
      have HR2 : Hid (quantM x r3 = R) := Lib.hid (by rw [← HR.out]; simp only [hat])
      have HR := HR2
      have hg5 := grown_trans hg4 hq5
      have hby5 := box_grown HBY4.out hq5 (by omega)
      have hz5 := hq5.size
      obtain ⟨k, c, ng, rs, lo, hi, lz, ks⟩ := x
      have hxv0 := hxv
      obtain ⟨ra, rc, ka, kc, rfl, hrs, hks⟩ := hxv.open_
      have hb6 : Below w5.heap.size w5 (w5.alloc (.cells #[.int .i64 k, .string ⟨(c).toArray⟩, .bool ng, .slice ra rs.length rc, .int .i64 lo, .int .i64 hi, .bool lz, .slice ka ks.length kc] 26)) := (Below.refl _ _).alloc (Nat.le_refl _) _
      have HRD6 := Lib.hid (hrd5.later hb6)
      have hg6 := grown_trans hg5 (grown_of_below hb6 (some g))
      have HBY6 := Lib.hid ((hb6.block _ (heap_lt hby5)).trans hby5)
      have hxv6 : RxV _ (fun b => w.heap.size + 1 ≤ b) _ _ := (hxv0.mono (S' := fun b => w.heap.size + 1 ≤ b) fun b hb _ => by omega).later hb6
      have hz6 : w.heap.size + 1 ≤ (w5.alloc (.cells #[.int .i64 k, .string ⟨(c).toArray⟩, .bool ng, .slice ra rs.length rc, .int .i64 lo, .int .i64 hi, .bool lz, .slice ka ks.length kc] 26)).heap.size := by simp; omega
      have HQT := Lib.hid (times_any _ HRD6.out hxv6 hz6 (by omega))
      clear hat hxv hxv0 hrs hks hrd5 hby5 hb6 hxv6 hz6
      unfold rxc at HQT ⊢
      go_wp2_with (go_at_call 31; refine HQT.out.mono ?_)
      rintro e w8 hq
      clear HQT
      cases hres : quantM (.mk k c ng rs lo hi lz ks) r3 with
      | error q =>
        rw [hres] at hq
        obtain ⟨hq8, rfl⟩ := hq
        have HR2 : Hid (Except.error q = R) := Lib.hid (by rw [← HR.out, hres])
        have HR := HR2
        have hg8 := grown_trans hg6 hq8
        obtain ⟨f0, f1, f2, f3, f4, f5, f6, f7, f8⟩ := bx_cells (c := []) (box_grown HBY6.out hq8 (by omega))
        clear hres hq8
        unfold rxv0
        go_wp2
        refine bodyPost_ret (v := .tuple #[.agg #[.int .i64 0, .string ⟨([]).toArray⟩, .bool false, .slice none 0 0, .int .i64 0, .int .i64 0, .bool false, .slice none 0 0], .int .i64 q]) (by simp [results, Try.results23, go_sem, f0, f1, f2, f3, f4, f5, f6, f7]) rfl ?_
        refine ⟨?_, ?_⟩
        · iterate 8 (refine grown_setNew ?_ (by first | omega | (simp; done) | (simp; omega)) _)
          exact hg8
        · rw [← HR.out]; rfl
      | ok y =>
        obtain ⟨x, r3⟩ := y
        rw [hres] at hq
        obtain ⟨hq8, cc, rfl, hxv, hrd9⟩ := hq
        have HR2 : Hid (Except.ok (x, r3) = R) := Lib.hid (by rw [← HR.out, hres])
        have HR := HR2
        have hg8 := grown_trans hg6 hq8
        have HRD9 := Lib.hid hrd9
        obtain ⟨k, c, ng, rs, lo, hi, lz, ks⟩ := x
        have hxv0 := hxv
        obtain ⟨ra, rc, ka, kc, rfl, hrs, hks⟩ := hxv.open_
        have HXV := Lib.hid (hxv0.mono (S' := fun b => w.heap.size ≤ b ∧ b ≠ w.heap.size) fun b hb hlt => by have := hz5; constructor <;> omega)
        obtain ⟨f0, f1, f2, f3, f4, f5, f6, f7, f8⟩ := bx_cells (c := []) (box_grown HBY6.out hq8 (by omega))
        clear hres hq8 hrd9 hxv hxv0 hrs hks
        unfold rxc at HXV ⊢
        go_wp2
        refine bodyPost_ret (v := .tuple #[.agg #[.int .i64 k, .string ⟨(c).toArray⟩, .bool ng, .slice ra rs.length rc, .int .i64 lo, .int .i64 hi, .bool lz, .slice ka ks.length kc], .int .i64 0]) (by simp [results, Try.results23, go_sem, f0, f1, f2, f3, f4, f5, f6, f7]) rfl ?_
        refine ⟨?_, ?_⟩
        · iterate 8 (refine grown_setNew ?_ (by first | omega | (simp; done) | (simp; omega)) _)
          exact hg8
        rw [← HR.out]
        refine ⟨rxc k c ng ra rs.length rc lo hi lz ka ks.length kc, rfl, RxV.mono (S := fun b => w.heap.size ≤ b ∧ b ≠ w.heap.size) (fun b hb _ => hb.1) ?_, ?_⟩
        · iterate 8 (refine RxV.keep (Kept.setLow _ (fun b hb => by have : w.heap.size ≤ b ∧ b ≠ w.heap.size := hb; first | omega | (simp; done) | (simp; omega))) ?_)
          exact HXV.out
        · iterate 8 (refine RdT.setHi ?_ (by first | omega | (simp; done) | (simp; omega)) _)
          exact HRD9.out
  | cons c r1 =>
    by_cases h94 : c = [94]
    · subst h94
      have HR : Hid (Except.ok (rxK 8, r1) = R) := Lib.hid hR
      clear hR hlen
      obtain ⟨w0, hw0⟩ : ∃ w0, w0 = w.alloc (.cells #[.int .i64 0, .string ⟨#[]⟩, .bool false, .slice none 0 0, .int .i64 0, .int .i64 0, .bool false, .slice none 0 0] 26) := ⟨_, rfl⟩
      obtain ⟨hb0, hz0, hby0⟩ := alloc1 w hw0
      have HRD := Lib.hid (h.later hb0)
      rw [hw0] at HRD
      have HW0 := Lib.hid hw0
      have HBY0 := Lib.hid hby0
      have hgg : w.grownBy w0 (some g) := grown_of_below hb0 _
      have hgr : g < w.heap.size := h.lt
      clear hw0 hby0 h
      go_enter Try.func23, Try.ntmps23
      go_wp2_with (go_at_call 25; refine (rtake_some _ HRD.out (takeM_eq [94] r1)).mono ?_)
      rintro e w1 ⟨rfl, hrd1, hq1⟩
      rw [← HW0.out] at hq1
      have hg1 := grown_trans hgg hq1
      have HBY1 := Lib.hid (box_grown HBY0.out hq1 (by omega))
      have hz1 : w0.heap.size ≤ w1.heap.size := hq1.size
      have HRD1 := Lib.hid hrd1
      clear hrd1 hq1
      have HRD9 := HRD1
      obtain ⟨f0, f1, f2, f3, f4, f5, f6, f7, f8⟩ := bx_cells (c := []) HBY1.out
      go_wp2
      refine bodyPost_ret (v := .tuple #[.agg #[.int .i64 8, .string ⟨([]).toArray⟩, .bool false, .slice none ([] : List Row).length 0, .int .i64 0, .int .i64 0, .bool false, .slice none ([] : List Rx).length 0], .int .i64 0]) (by simp [results, Try.results23, go_sem, f0, f1, f2, f3, f4, f5, f6, f7]) rfl ?_
      refine ⟨?_, ?_⟩
      · iterate 8 (refine grown_setNew ?_ (by first | omega | (simp; done) | (simp; omega)) _)
        exact hg1
      rw [← HR.out]
      refine ⟨rxc 8 [] false none ([] : List Row).length 0 0 0 false none ([] : List Rx).length 0, rfl, RxV.mono (S := fun b => w.heap.size ≤ b ∧ b ≠ w.heap.size) (fun b hb _ => hb.1) ?_, ?_⟩
      · iterate 8 (refine RxV.keep (Kept.setLow _ (fun b hb => by have : w.heap.size ≤ b ∧ b ≠ w.heap.size := hb; first | omega | (simp; done) | (simp; omega))) ?_)
        exact (RxV.close (SlS.none_ _ _ _ _) ⟨[], SlS.none_ _ _ _ _, .nil⟩)
      · iterate 8 (refine RdT.setHi ?_ (by first | omega | (simp; done) | (simp; omega)) _)
        exact HRD9.out
    have HT94 : Hid (takeM [94] (c :: r1) = none) := Lib.hid (takeM_ne h94)
    by_cases h36 : c = [36]
    · subst h36
      have HR : Hid (Except.ok (rxK 9, r1) = R) := Lib.hid hR
      clear hR hlen
      obtain ⟨w0, hw0⟩ : ∃ w0, w0 = w.alloc (.cells #[.int .i64 0, .string ⟨#[]⟩, .bool false, .slice none 0 0, .int .i64 0, .int .i64 0, .bool false, .slice none 0 0] 26) := ⟨_, rfl⟩
      obtain ⟨hb0, hz0, hby0⟩ := alloc1 w hw0
      have HRD := Lib.hid (h.later hb0)
      rw [hw0] at HRD
      have HW0 := Lib.hid hw0
      have HBY0 := Lib.hid hby0
      have hgg : w.grownBy w0 (some g) := grown_of_below hb0 _
      have hgr : g < w.heap.size := h.lt
      clear hw0 hby0 h
      go_enter Try.func23, Try.ntmps23
      go_wp2_with (go_at_call 25; refine (rtake_no _ _ HRD.out HT94.out).mono ?_)
      rintro e w1 ⟨rfl, hrd1, hq1⟩
      rw [← HW0.out] at hq1
      have hg1 := grown_trans hgg hq1
      have HBY1 := Lib.hid (box_grown HBY0.out hq1 (by omega))
      have hz1 : w0.heap.size ≤ w1.heap.size := hq1.size
      have HRD1 := Lib.hid hrd1
      clear hrd1 hq1
      go_wp2_with (go_at_call 25; refine (rtake_some _ HRD1.out (takeM_eq [36] r1)).mono ?_)
      rintro e w2 ⟨rfl, hrd2, hq2⟩
      have hg2 := grown_trans hg1 hq2
      have HBY2 := Lib.hid (box_grown HBY1.out hq2 (by omega))
      have hz2 : w0.heap.size ≤ w2.heap.size := Nat.le_trans hz1 hq2.size
      have HRD2 := Lib.hid hrd2
      clear hrd2 hq2
      have HRD9 := HRD2
      obtain ⟨f0, f1, f2, f3, f4, f5, f6, f7, f8⟩ := bx_cells (c := []) HBY2.out
      go_wp2
      refine bodyPost_ret (v := .tuple #[.agg #[.int .i64 9, .string ⟨([]).toArray⟩, .bool false, .slice none ([] : List Row).length 0, .int .i64 0, .int .i64 0, .bool false, .slice none ([] : List Rx).length 0], .int .i64 0]) (by simp [results, Try.results23, go_sem, f0, f1, f2, f3, f4, f5, f6, f7]) rfl ?_
      refine ⟨?_, ?_⟩
      · iterate 8 (refine grown_setNew ?_ (by first | omega | (simp; done) | (simp; omega)) _)
        exact hg2
      rw [← HR.out]
      refine ⟨rxc 9 [] false none ([] : List Row).length 0 0 0 false none ([] : List Rx).length 0, rfl, RxV.mono (S := fun b => w.heap.size ≤ b ∧ b ≠ w.heap.size) (fun b hb _ => hb.1) ?_, ?_⟩
      · iterate 8 (refine RxV.keep (Kept.setLow _ (fun b hb => by have : w.heap.size ≤ b ∧ b ≠ w.heap.size := hb; first | omega | (simp; done) | (simp; omega))) ?_)
        exact (RxV.close (SlS.none_ _ _ _ _) ⟨[], SlS.none_ _ _ _ _, .nil⟩)
      · iterate 8 (refine RdT.setHi ?_ (by first | omega | (simp; done) | (simp; omega)) _)
        exact HRD9.out
    have HT36 : Hid (takeM [36] (c :: r1) = none) := Lib.hid (takeM_ne h36)
    by_cases h92 : c = [92]
    · subst h92
      clear h94 h36
      cases r1 with
      | nil =>
        have HR : Hid ((match atomP (patP n) [[92]] d with | .error e => .error e | .ok (x, r1) => quantM x r1) = R) := Lib.hid hR
        have HE : Hid (edgeM [[92]] = none) := Lib.hid rfl
        clear hR
        obtain ⟨w0, hw0⟩ : ∃ w0, w0 = w.alloc (.cells #[.int .i64 0, .string ⟨#[]⟩, .bool false, .slice none 0 0, .int .i64 0, .int .i64 0, .bool false, .slice none 0 0] 26) := ⟨_, rfl⟩
        obtain ⟨hb0, hz0, hby0⟩ := alloc1 w hw0
        have HRD := Lib.hid (h.later hb0)
        rw [hw0] at HRD
        have HW0 := Lib.hid hw0
        have HBY0 := Lib.hid hby0
        have hgg : w.grownBy w0 (some g) := grown_of_below hb0 _
        have hgr : g < w.heap.size := h.lt
        clear hw0 hby0 h
        go_enter Try.func23, Try.ntmps23
        go_wp2_with (go_at_call 25; refine (rtake_no _ _ HRD.out HT94.out).mono ?_)
        rintro e w1 ⟨rfl, hrd1, hq1⟩
        rw [← HW0.out] at hq1
        have hg1 := grown_trans hgg hq1
        have HBY1 := Lib.hid (box_grown HBY0.out hq1 (by omega))
        have hz1 : w0.heap.size ≤ w1.heap.size := hq1.size
        have HRD1 := Lib.hid hrd1
        clear hrd1 hq1
        go_wp2_with (go_at_call 25; refine (rtake_no _ _ HRD1.out HT36.out).mono ?_)
        rintro e w2 ⟨rfl, hrd2, hq2⟩
        have hg2 := grown_trans hg1 hq2
        have HBY2 := Lib.hid (box_grown HBY1.out hq2 (by omega))
        have hz2 : w0.heap.size ≤ w2.heap.size := Nat.le_trans hz1 hq2.size
        have HRD2 := Lib.hid hrd2
        clear hrd2 hq2
        have HSEE : Hid (∀ x : ExtOf w2, Calls Try.prog 22 #[.pointer (some ⟨g, 0, none⟩)] x.val fun e w' => e = .returned (.string ⟨((([92] : Str))).toArray⟩) ∧ Below x.val.heap.size x.val w') := Lib.hid fun x => (rsee_any _ (HRD2.out.later x.ext)).mono fun _ _ ⟨h1, h2⟩ => ⟨by rw [h1]; rfl, h2.below _⟩
        obtain ⟨la, lk, li, ln, l0, l1, l2, l3⟩ := HRD2.out.look0
        have d0 : ∀ x : ExtOf w2, x.val.cell? ⟨g, 0, none⟩ = some (.slice la ln lk) := ExtOf.cell l0
        have d1 : ∀ x : ExtOf w2, x.val.cell? ⟨g, 1, none⟩ = some (.int .i64 li) := ExtOf.cell l1
        have gg : decide (li + 1 < ln) = false := by simp; omega
        have gg2 : decide ((li : Int) + 1 < (ln : Int)) = false := by simp; omega
        have gw : IntKind.i64.wrap ((li : Int) + 1) = (li : Int) + 1 := IntWalk.i64_in _ (by omega)
        clear l0 l1
        go_upto_region 5 with fail
        refine wp_region_ext (by kernel_rfl) (by kernel_rfl) ?_
        repeat (go_big_quiet_step ((go_at_call 22; exact ext_call (HSEE.out _))))
        refine wpQuiet_nil ?_
        rintro _ ⟨xq, rfl⟩
        clear HSEE d0 d1 gg gg2 gw
        obtain ⟨w3, hw3⟩ : ∃ w3, w3 = xq.val := ⟨_, rfl⟩
        have hb3 : Below w2.heap.size w2 w3 := hw3 ▸ xq.ext
        rw [← hw3]
        have HRD3 := Lib.hid (HRD2.out.later hb3)
        have HBY3 := Lib.hid ((hb3.block _ (heap_lt HBY2.out)).trans HBY2.out)
        have hg3 := grown_trans hg2 (grown_of_below hb3 (some g))
        have hz3 : w0.heap.size ≤ w3.heap.size := Nat.le_trans hz2 hb3.size
        clear hw3 hb3 HRD2 HBY2 hg2
        have HSEE : Hid (∀ x : ExtOf w3, Calls Try.prog 22 #[.pointer (some ⟨g, 0, none⟩)] x.val fun e w' => e = .returned (.string ⟨((([92] : Str))).toArray⟩) ∧ Below x.val.heap.size x.val w') := Lib.hid fun x => (rsee_any _ (HRD3.out.later x.ext)).mono fun _ _ ⟨h1, h2⟩ => ⟨by rw [h1]; rfl, h2.below _⟩
        obtain ⟨la, lk, li, ln, l0, l1, l2, l3⟩ := HRD3.out.look0
        have d0 : ∀ x : ExtOf w3, x.val.cell? ⟨g, 0, none⟩ = some (.slice la ln lk) := ExtOf.cell l0
        have d1 : ∀ x : ExtOf w3, x.val.cell? ⟨g, 1, none⟩ = some (.int .i64 li) := ExtOf.cell l1
        have gg : decide (li + 1 < ln) = false := by simp; omega
        have gg2 : decide ((li : Int) + 1 < (ln : Int)) = false := by simp; omega
        have gw : IntKind.i64.wrap ((li : Int) + 1) = (li : Int) + 1 := IntWalk.i64_in _ (by omega)
        clear l0 l1
        go_upto_region 8 with fail
        refine wp_region_ext (by kernel_rfl) (by kernel_rfl) ?_
        repeat (go_big_quiet_step ((go_at_call 22; exact ext_call (HSEE.out _))))
        refine wpQuiet_nil ?_
        rintro _ ⟨xq, rfl⟩
        clear HSEE d0 d1 gg gg2 gw
        obtain ⟨w4, hw4⟩ : ∃ w4, w4 = xq.val := ⟨_, rfl⟩
        have hb4 : Below w3.heap.size w3 w4 := hw4 ▸ xq.ext
        rw [← hw4]
        have HRD4 := Lib.hid (HRD3.out.later hb4)
        have HBY4 := Lib.hid ((hb4.block _ (heap_lt HBY3.out)).trans HBY3.out)
        have hg4 := grown_trans hg3 (grown_of_below hb4 (some g))
        have hz4 : w0.heap.size ≤ w4.heap.size := Nat.le_trans hz3 hb4.size
        clear hw4 hb4 HRD3 HBY3 hg3
        have HAT := Lib.hid (ratom_any HP.out w4 HRD4.out hlen hd HE.out)
        go_wp2_with (go_at_call 30; refine HAT.out.mono ?_)
        rintro e w5 hq
        clear HAT
        cases hat : atomP (patP n) (([[92]] : List Str)) d with
        | error q =>
          rw [hat] at hq
          obtain ⟨hq5, rfl⟩ := hq
          have hq0 : q ≠ 0 := atomP_err (patP_err n) (([[92]] : List Str)) d q hat
          have HR2 : Hid (Except.error q = R) := Lib.hid (by rw [← HR.out]; simp only [hat])
          have HR := HR2
          have hg5 := grown_trans hg4 hq5
          have hby5 := box_grown HBY4.out hq5 (by omega)
          have hb6 : Below w5.heap.size w5 (w5.alloc (.cells #[.int .i64 0, .string ⟨#[]⟩, .bool false, .slice none 0 0, .int .i64 0, .int .i64 0, .bool false, .slice none 0 0] 26)) := (Below.refl _ _).alloc (Nat.le_refl _) _
          have hg6 := grown_trans hg5 (grown_of_below hb6 (some g))
          have ne1 : (q != 0) = true := by simp [bne, hq0]
          obtain ⟨f0, f1, f2, f3, f4, f5, f6, f7, f8⟩ := bx_cells (c := []) ((hb6.block _ (heap_lt hby5)).trans hby5)
          clear hat hby5 hb6 hq5
          unfold rxv0
          go_wp2
          refine bodyPost_ret (v := .tuple #[.agg #[.int .i64 0, .string ⟨([]).toArray⟩, .bool false, .slice none 0 0, .int .i64 0, .int .i64 0, .bool false, .slice none 0 0], .int .i64 q]) (by simp [results, Try.results23, go_sem, f0, f1, f2, f3, f4, f5, f6, f7]) rfl ?_
          refine ⟨?_, ?_⟩
          · iterate 8 (refine grown_setNew ?_ (by first | omega | (simp; done) | (simp; omega)) _)
            exact hg6
          · rw [← HR.out]; rfl
        | ok y =>
          obtain ⟨x, r3⟩ := y
          rw [hat] at hq
          obtain ⟨hq5, cc, rfl, hxv, hrd5⟩ := hq
          have HR2 : Hid (quantM x r3 = R) := Lib.hid (by rw [← HR.out]; simp only [hat])
          have HR := HR2
          have hg5 := grown_trans hg4 hq5
          have hby5 := box_grown HBY4.out hq5 (by omega)
          have hz5 := hq5.size
          obtain ⟨k, c, ng, rs, lo, hi, lz, ks⟩ := x
          have hxv0 := hxv
          obtain ⟨ra, rc, ka, kc, rfl, hrs, hks⟩ := hxv.open_
          have hb6 : Below w5.heap.size w5 (w5.alloc (.cells #[.int .i64 k, .string ⟨(c).toArray⟩, .bool ng, .slice ra rs.length rc, .int .i64 lo, .int .i64 hi, .bool lz, .slice ka ks.length kc] 26)) := (Below.refl _ _).alloc (Nat.le_refl _) _
          have HRD6 := Lib.hid (hrd5.later hb6)
          have hg6 := grown_trans hg5 (grown_of_below hb6 (some g))
          have HBY6 := Lib.hid ((hb6.block _ (heap_lt hby5)).trans hby5)
          have hxv6 : RxV _ (fun b => w.heap.size + 1 ≤ b) _ _ := (hxv0.mono (S' := fun b => w.heap.size + 1 ≤ b) fun b hb _ => by omega).later hb6
          have hz6 : w.heap.size + 1 ≤ (w5.alloc (.cells #[.int .i64 k, .string ⟨(c).toArray⟩, .bool ng, .slice ra rs.length rc, .int .i64 lo, .int .i64 hi, .bool lz, .slice ka ks.length kc] 26)).heap.size := by simp; omega
          have HQT := Lib.hid (times_any _ HRD6.out hxv6 hz6 (by omega))
          clear hat hxv hxv0 hrs hks hrd5 hby5 hb6 hxv6 hz6
          unfold rxc at HQT ⊢
          go_wp2_with (go_at_call 31; refine HQT.out.mono ?_)
          rintro e w8 hq
          clear HQT
          cases hres : quantM (.mk k c ng rs lo hi lz ks) r3 with
          | error q =>
            rw [hres] at hq
            obtain ⟨hq8, rfl⟩ := hq
            have HR2 : Hid (Except.error q = R) := Lib.hid (by rw [← HR.out, hres])
            have HR := HR2
            have hg8 := grown_trans hg6 hq8
            obtain ⟨f0, f1, f2, f3, f4, f5, f6, f7, f8⟩ := bx_cells (c := []) (box_grown HBY6.out hq8 (by omega))
            clear hres hq8
            unfold rxv0
            go_wp2
            refine bodyPost_ret (v := .tuple #[.agg #[.int .i64 0, .string ⟨([]).toArray⟩, .bool false, .slice none 0 0, .int .i64 0, .int .i64 0, .bool false, .slice none 0 0], .int .i64 q]) (by simp [results, Try.results23, go_sem, f0, f1, f2, f3, f4, f5, f6, f7]) rfl ?_
            refine ⟨?_, ?_⟩
            · iterate 8 (refine grown_setNew ?_ (by first | omega | (simp; done) | (simp; omega)) _)
              exact hg8
            · rw [← HR.out]; rfl
          | ok y =>
            obtain ⟨x, r3⟩ := y
            rw [hres] at hq
            obtain ⟨hq8, cc, rfl, hxv, hrd9⟩ := hq
            have HR2 : Hid (Except.ok (x, r3) = R) := Lib.hid (by rw [← HR.out, hres])
            have HR := HR2
            have hg8 := grown_trans hg6 hq8
            have HRD9 := Lib.hid hrd9
            obtain ⟨k, c, ng, rs, lo, hi, lz, ks⟩ := x
            have hxv0 := hxv
            obtain ⟨ra, rc, ka, kc, rfl, hrs, hks⟩ := hxv.open_
            have HXV := Lib.hid (hxv0.mono (S' := fun b => w.heap.size ≤ b ∧ b ≠ w.heap.size) fun b hb hlt => by have := hz5; constructor <;> omega)
            obtain ⟨f0, f1, f2, f3, f4, f5, f6, f7, f8⟩ := bx_cells (c := []) (box_grown HBY6.out hq8 (by omega))
            clear hres hq8 hrd9 hxv hxv0 hrs hks
            unfold rxc at HXV ⊢
            go_wp2
            refine bodyPost_ret (v := .tuple #[.agg #[.int .i64 k, .string ⟨(c).toArray⟩, .bool ng, .slice ra rs.length rc, .int .i64 lo, .int .i64 hi, .bool lz, .slice ka ks.length kc], .int .i64 0]) (by simp [results, Try.results23, go_sem, f0, f1, f2, f3, f4, f5, f6, f7]) rfl ?_
            refine ⟨?_, ?_⟩
            · iterate 8 (refine grown_setNew ?_ (by first | omega | (simp; done) | (simp; omega)) _)
              exact hg8
            rw [← HR.out]
            refine ⟨rxc k c ng ra rs.length rc lo hi lz ka ks.length kc, rfl, RxV.mono (S := fun b => w.heap.size ≤ b ∧ b ≠ w.heap.size) (fun b hb _ => hb.1) ?_, ?_⟩
            · iterate 8 (refine RxV.keep (Kept.setLow _ (fun b hb => by have : w.heap.size ≤ b ∧ b ≠ w.heap.size := hb; first | omega | (simp; done) | (simp; omega))) ?_)
              exact HXV.out
            · iterate 8 (refine RdT.setHi ?_ (by first | omega | (simp; done) | (simp; omega)) _)
              exact HRD9.out
      | cons c2 r2 =>
        by_cases h98 : c2 = [98]
        · subst h98
          have HR : Hid (Except.ok (rxK 10, r2) = R) := Lib.hid hR
          clear hR hlen
          obtain ⟨w0, hw0⟩ : ∃ w0, w0 = w.alloc (.cells #[.int .i64 0, .string ⟨#[]⟩, .bool false, .slice none 0 0, .int .i64 0, .int .i64 0, .bool false, .slice none 0 0] 26) := ⟨_, rfl⟩
          obtain ⟨hb0, hz0, hby0⟩ := alloc1 w hw0
          have HRD := Lib.hid (h.later hb0)
          rw [hw0] at HRD
          have HW0 := Lib.hid hw0
          have HBY0 := Lib.hid hby0
          have hgg : w.grownBy w0 (some g) := grown_of_below hb0 _
          have hgr : g < w.heap.size := h.lt
          clear hw0 hby0 h
          go_enter Try.func23, Try.ntmps23
          go_wp2_with (go_at_call 25; refine (rtake_no _ _ HRD.out HT94.out).mono ?_)
          rintro e w1 ⟨rfl, hrd1, hq1⟩
          rw [← HW0.out] at hq1
          have hg1 := grown_trans hgg hq1
          have HBY1 := Lib.hid (box_grown HBY0.out hq1 (by omega))
          have hz1 : w0.heap.size ≤ w1.heap.size := hq1.size
          have HRD1 := Lib.hid hrd1
          clear hrd1 hq1
          go_wp2_with (go_at_call 25; refine (rtake_no _ _ HRD1.out HT36.out).mono ?_)
          rintro e w2 ⟨rfl, hrd2, hq2⟩
          have hg2 := grown_trans hg1 hq2
          have HBY2 := Lib.hid (box_grown HBY1.out hq2 (by omega))
          have hz2 : w0.heap.size ≤ w2.heap.size := Nat.le_trans hz1 hq2.size
          have HRD2 := Lib.hid hrd2
          clear hrd2 hq2
          have HSEE : Hid (∀ x : ExtOf w2, Calls Try.prog 22 #[.pointer (some ⟨g, 0, none⟩)] x.val fun e w' => e = .returned (.string ⟨((([92] : Str))).toArray⟩) ∧ Below x.val.heap.size x.val w') := Lib.hid fun x => (rsee_any _ (HRD2.out.later x.ext)).mono fun _ _ ⟨h1, h2⟩ => ⟨by rw [h1]; rfl, h2.below _⟩
          obtain ⟨lb, lo, lk, li, ln, l0, l1, l2, l3, l4⟩ := HRD2.out.look1
          have d0 : ∀ x : ExtOf w2, x.val.cell? ⟨g, 0, none⟩ = some (.slice (some ⟨lb, lo, none⟩) ln lk) := ExtOf.cell l0
          have d1 : ∀ x : ExtOf w2, x.val.cell? ⟨g, 1, none⟩ = some (.int .i64 li) := ExtOf.cell l1
          have d2 : ∀ x : ExtOf w2, x.val.cell? ⟨lb, lo + (li + 1), none⟩ = some (.string ⟨(([98] : Str)).toArray⟩) := ExtOf.cell l4
          have gg : decide (li + 1 < ln) = true := by simp; omega
          have gg2 : decide ((li : Int) + 1 < (ln : Int)) = true := by simp; omega
          have gn : ((li : Int) + 1).toNat = li + 1 := by omega
          have gn0 : (0 : Int) ≤ (li : Int) + 1 := by omega
          have gn1 : (li : Int) + 1 < (ln : Int) := by omega
          have gw : IntKind.i64.wrap ((li : Int) + 1) = (li : Int) + 1 := IntWalk.i64_in _ (by omega)
          clear l0 l1 l4
          go_upto_region 5 with fail
          refine wp_region_ext (by kernel_rfl) (by kernel_rfl) ?_
          repeat (go_big_quiet_step ((go_at_call 22; exact ext_call (HSEE.out _))))
          refine wpQuiet_nil ?_
          rintro _ ⟨xq, rfl⟩
          clear HSEE d0 d1 d2 gg gg2 gn gn0 gn1 gw
          obtain ⟨w3, hw3⟩ : ∃ w3, w3 = xq.val := ⟨_, rfl⟩
          have hb3 : Below w2.heap.size w2 w3 := hw3 ▸ xq.ext
          rw [← hw3]
          have HRD3 := Lib.hid (HRD2.out.later hb3)
          have HBY3 := Lib.hid ((hb3.block _ (heap_lt HBY2.out)).trans HBY2.out)
          have hg3 := grown_trans hg2 (grown_of_below hb3 (some g))
          have hz3 : w0.heap.size ≤ w3.heap.size := Nat.le_trans hz2 hb3.size
          clear hw3 hb3 HRD2 HBY2 hg2
          obtain ⟨i, hi, c1, hf, hr2⟩ := HRD3.out.step2
          have HRD9 := Lib.hid hr2
          have hg9 := grown_set hg3 1 (.int .i64 ((i : Int) + 2))
          clear hr2
          obtain ⟨f0, f1, f2, f3, f4, f5, f6, f7, f8⟩ := bx_cells (c := []) HBY3.out
          go_wp2
          refine bodyPost_ret (v := .tuple #[.agg #[.int .i64 10, .string ⟨([]).toArray⟩, .bool false, .slice none ([] : List Row).length 0, .int .i64 0, .int .i64 0, .bool false, .slice none ([] : List Rx).length 0], .int .i64 0]) (by simp [results, Try.results23, go_sem, f0, f1, f2, f3, f4, f5, f6, f7]) rfl ?_
          refine ⟨?_, ?_⟩
          · iterate 8 (refine grown_setNew ?_ (by first | omega | (simp; done) | (simp; omega)) _)
            exact hg9
          rw [← HR.out]
          refine ⟨rxc 10 [] false none ([] : List Row).length 0 0 0 false none ([] : List Rx).length 0, rfl, RxV.mono (S := fun b => w.heap.size ≤ b ∧ b ≠ w.heap.size) (fun b hb _ => hb.1) ?_, ?_⟩
          · iterate 8 (refine RxV.keep (Kept.setLow _ (fun b hb => by have : w.heap.size ≤ b ∧ b ≠ w.heap.size := hb; first | omega | (simp; done) | (simp; omega))) ?_)
            exact (RxV.close (SlS.none_ _ _ _ _) ⟨[], SlS.none_ _ _ _ _, .nil⟩)
          · iterate 8 (refine RdT.setHi ?_ (by first | omega | (simp; done) | (simp; omega)) _)
            exact HRD9.out
        have g98 : (c2 == [98]) = false := beq_eq_false_iff_ne.2 h98
        by_cases h66 : c2 = [66]
        · subst h66
          have HR : Hid (Except.ok (rxK 11, r2) = R) := Lib.hid hR
          clear hR hlen
          obtain ⟨w0, hw0⟩ : ∃ w0, w0 = w.alloc (.cells #[.int .i64 0, .string ⟨#[]⟩, .bool false, .slice none 0 0, .int .i64 0, .int .i64 0, .bool false, .slice none 0 0] 26) := ⟨_, rfl⟩
          obtain ⟨hb0, hz0, hby0⟩ := alloc1 w hw0
          have HRD := Lib.hid (h.later hb0)
          rw [hw0] at HRD
          have HW0 := Lib.hid hw0
          have HBY0 := Lib.hid hby0
          have hgg : w.grownBy w0 (some g) := grown_of_below hb0 _
          have hgr : g < w.heap.size := h.lt
          clear hw0 hby0 h
          go_enter Try.func23, Try.ntmps23
          go_wp2_with (go_at_call 25; refine (rtake_no _ _ HRD.out HT94.out).mono ?_)
          rintro e w1 ⟨rfl, hrd1, hq1⟩
          rw [← HW0.out] at hq1
          have hg1 := grown_trans hgg hq1
          have HBY1 := Lib.hid (box_grown HBY0.out hq1 (by omega))
          have hz1 : w0.heap.size ≤ w1.heap.size := hq1.size
          have HRD1 := Lib.hid hrd1
          clear hrd1 hq1
          go_wp2_with (go_at_call 25; refine (rtake_no _ _ HRD1.out HT36.out).mono ?_)
          rintro e w2 ⟨rfl, hrd2, hq2⟩
          have hg2 := grown_trans hg1 hq2
          have HBY2 := Lib.hid (box_grown HBY1.out hq2 (by omega))
          have hz2 : w0.heap.size ≤ w2.heap.size := Nat.le_trans hz1 hq2.size
          have HRD2 := Lib.hid hrd2
          clear hrd2 hq2
          have HSEE : Hid (∀ x : ExtOf w2, Calls Try.prog 22 #[.pointer (some ⟨g, 0, none⟩)] x.val fun e w' => e = .returned (.string ⟨((([92] : Str))).toArray⟩) ∧ Below x.val.heap.size x.val w') := Lib.hid fun x => (rsee_any _ (HRD2.out.later x.ext)).mono fun _ _ ⟨h1, h2⟩ => ⟨by rw [h1]; rfl, h2.below _⟩
          obtain ⟨lb, lo, lk, li, ln, l0, l1, l2, l3, l4⟩ := HRD2.out.look1
          have d0 : ∀ x : ExtOf w2, x.val.cell? ⟨g, 0, none⟩ = some (.slice (some ⟨lb, lo, none⟩) ln lk) := ExtOf.cell l0
          have d1 : ∀ x : ExtOf w2, x.val.cell? ⟨g, 1, none⟩ = some (.int .i64 li) := ExtOf.cell l1
          have d2 : ∀ x : ExtOf w2, x.val.cell? ⟨lb, lo + (li + 1), none⟩ = some (.string ⟨(([66] : Str)).toArray⟩) := ExtOf.cell l4
          have gg : decide (li + 1 < ln) = true := by simp; omega
          have gg2 : decide ((li : Int) + 1 < (ln : Int)) = true := by simp; omega
          have gn : ((li : Int) + 1).toNat = li + 1 := by omega
          have gn0 : (0 : Int) ≤ (li : Int) + 1 := by omega
          have gn1 : (li : Int) + 1 < (ln : Int) := by omega
          have gw : IntKind.i64.wrap ((li : Int) + 1) = (li : Int) + 1 := IntWalk.i64_in _ (by omega)
          clear l0 l1 l4
          go_upto_region 5 with fail
          refine wp_region_ext (by kernel_rfl) (by kernel_rfl) ?_
          repeat (go_big_quiet_step ((go_at_call 22; exact ext_call (HSEE.out _))))
          refine wpQuiet_nil ?_
          rintro _ ⟨xq, rfl⟩
          clear HSEE d0 d1 d2 gg gg2 gn gn0 gn1 gw
          obtain ⟨w3, hw3⟩ : ∃ w3, w3 = xq.val := ⟨_, rfl⟩
          have hb3 : Below w2.heap.size w2 w3 := hw3 ▸ xq.ext
          rw [← hw3]
          have HRD3 := Lib.hid (HRD2.out.later hb3)
          have HBY3 := Lib.hid ((hb3.block _ (heap_lt HBY2.out)).trans HBY2.out)
          have hg3 := grown_trans hg2 (grown_of_below hb3 (some g))
          have hz3 : w0.heap.size ≤ w3.heap.size := Nat.le_trans hz2 hb3.size
          clear hw3 hb3 HRD2 HBY2 hg2
          have HSEE : Hid (∀ x : ExtOf w3, Calls Try.prog 22 #[.pointer (some ⟨g, 0, none⟩)] x.val fun e w' => e = .returned (.string ⟨((([92] : Str))).toArray⟩) ∧ Below x.val.heap.size x.val w') := Lib.hid fun x => (rsee_any _ (HRD3.out.later x.ext)).mono fun _ _ ⟨h1, h2⟩ => ⟨by rw [h1]; rfl, h2.below _⟩
          obtain ⟨lb, lo, lk, li, ln, l0, l1, l2, l3, l4⟩ := HRD3.out.look1
          have d0 : ∀ x : ExtOf w3, x.val.cell? ⟨g, 0, none⟩ = some (.slice (some ⟨lb, lo, none⟩) ln lk) := ExtOf.cell l0
          have d1 : ∀ x : ExtOf w3, x.val.cell? ⟨g, 1, none⟩ = some (.int .i64 li) := ExtOf.cell l1
          have d2 : ∀ x : ExtOf w3, x.val.cell? ⟨lb, lo + (li + 1), none⟩ = some (.string ⟨(([66] : Str)).toArray⟩) := ExtOf.cell l4
          have gg : decide (li + 1 < ln) = true := by simp; omega
          have gg2 : decide ((li : Int) + 1 < (ln : Int)) = true := by simp; omega
          have gn : ((li : Int) + 1).toNat = li + 1 := by omega
          have gn0 : (0 : Int) ≤ (li : Int) + 1 := by omega
          have gn1 : (li : Int) + 1 < (ln : Int) := by omega
          have gw : IntKind.i64.wrap ((li : Int) + 1) = (li : Int) + 1 := IntWalk.i64_in _ (by omega)
          clear l0 l1 l4
          go_upto_region 8 with fail
          refine wp_region_ext (by kernel_rfl) (by kernel_rfl) ?_
          repeat (go_big_quiet_step ((go_at_call 22; exact ext_call (HSEE.out _))))
          refine wpQuiet_nil ?_
          rintro _ ⟨xq, rfl⟩
          clear HSEE d0 d1 d2 gg gg2 gn gn0 gn1 gw
          obtain ⟨w4, hw4⟩ : ∃ w4, w4 = xq.val := ⟨_, rfl⟩
          have hb4 : Below w3.heap.size w3 w4 := hw4 ▸ xq.ext
          rw [← hw4]
          have HRD4 := Lib.hid (HRD3.out.later hb4)
          have HBY4 := Lib.hid ((hb4.block _ (heap_lt HBY3.out)).trans HBY3.out)
          have hg4 := grown_trans hg3 (grown_of_below hb4 (some g))
          have hz4 : w0.heap.size ≤ w4.heap.size := Nat.le_trans hz3 hb4.size
          clear hw4 hb4 HRD3 HBY3 hg3
          obtain ⟨i, hi, c1, hf, hr2⟩ := HRD4.out.step2
          have HRD9 := Lib.hid hr2
          have hg9 := grown_set hg4 1 (.int .i64 ((i : Int) + 2))
          clear hr2
          obtain ⟨f0, f1, f2, f3, f4, f5, f6, f7, f8⟩ := bx_cells (c := []) HBY4.out
          go_wp2
          refine bodyPost_ret (v := .tuple #[.agg #[.int .i64 11, .string ⟨([]).toArray⟩, .bool false, .slice none ([] : List Row).length 0, .int .i64 0, .int .i64 0, .bool false, .slice none ([] : List Rx).length 0], .int .i64 0]) (by simp [results, Try.results23, go_sem, f0, f1, f2, f3, f4, f5, f6, f7]) rfl ?_
          refine ⟨?_, ?_⟩
          · iterate 8 (refine grown_setNew ?_ (by first | omega | (simp; done) | (simp; omega)) _)
            exact hg9
          rw [← HR.out]
          refine ⟨rxc 11 [] false none ([] : List Row).length 0 0 0 false none ([] : List Rx).length 0, rfl, RxV.mono (S := fun b => w.heap.size ≤ b ∧ b ≠ w.heap.size) (fun b hb _ => hb.1) ?_, ?_⟩
          · iterate 8 (refine RxV.keep (Kept.setLow _ (fun b hb => by have : w.heap.size ≤ b ∧ b ≠ w.heap.size := hb; first | omega | (simp; done) | (simp; omega))) ?_)
            exact (RxV.close (SlS.none_ _ _ _ _) ⟨[], SlS.none_ _ _ _ _, .nil⟩)
          · iterate 8 (refine RdT.setHi ?_ (by first | omega | (simp; done) | (simp; omega)) _)
            exact HRD9.out
        have g66 : (c2 == [66]) = false := beq_eq_false_iff_ne.2 h66
        have he : edgeM ([92] :: c2 :: r2) = none := by simp [edgeM, takeM, h98, h66]
        have HE := Lib.hid he
        have HR : Hid ((match atomP (patP n) ([92] :: c2 :: r2) d with | .error e => .error e | .ok (x, r1) => quantM x r1) = R) := Lib.hid (by rw [← hR, he]; try rfl)
        clear hR he h98 h66
        obtain ⟨w0, hw0⟩ : ∃ w0, w0 = w.alloc (.cells #[.int .i64 0, .string ⟨#[]⟩, .bool false, .slice none 0 0, .int .i64 0, .int .i64 0, .bool false, .slice none 0 0] 26) := ⟨_, rfl⟩
        obtain ⟨hb0, hz0, hby0⟩ := alloc1 w hw0
        have HRD := Lib.hid (h.later hb0)
        rw [hw0] at HRD
        have HW0 := Lib.hid hw0
        have HBY0 := Lib.hid hby0
        have hgg : w.grownBy w0 (some g) := grown_of_below hb0 _
        have hgr : g < w.heap.size := h.lt
        clear hw0 hby0 h
        go_enter Try.func23, Try.ntmps23
        go_wp2_with (go_at_call 25; refine (rtake_no _ _ HRD.out HT94.out).mono ?_)
        rintro e w1 ⟨rfl, hrd1, hq1⟩
        rw [← HW0.out] at hq1
        have hg1 := grown_trans hgg hq1
        have HBY1 := Lib.hid (box_grown HBY0.out hq1 (by omega))
        have hz1 : w0.heap.size ≤ w1.heap.size := hq1.size
        have HRD1 := Lib.hid hrd1
        clear hrd1 hq1
        go_wp2_with (go_at_call 25; refine (rtake_no _ _ HRD1.out HT36.out).mono ?_)
        rintro e w2 ⟨rfl, hrd2, hq2⟩
        have hg2 := grown_trans hg1 hq2
        have HBY2 := Lib.hid (box_grown HBY1.out hq2 (by omega))
        have hz2 : w0.heap.size ≤ w2.heap.size := Nat.le_trans hz1 hq2.size
        have HRD2 := Lib.hid hrd2
        clear hrd2 hq2
        have HSEE : Hid (∀ x : ExtOf w2, Calls Try.prog 22 #[.pointer (some ⟨g, 0, none⟩)] x.val fun e w' => e = .returned (.string ⟨((([92] : Str))).toArray⟩) ∧ Below x.val.heap.size x.val w') := Lib.hid fun x => (rsee_any _ (HRD2.out.later x.ext)).mono fun _ _ ⟨h1, h2⟩ => ⟨by rw [h1]; rfl, h2.below _⟩
        obtain ⟨lb, lo, lk, li, ln, l0, l1, l2, l3, l4⟩ := HRD2.out.look1
        have d0 : ∀ x : ExtOf w2, x.val.cell? ⟨g, 0, none⟩ = some (.slice (some ⟨lb, lo, none⟩) ln lk) := ExtOf.cell l0
        have d1 : ∀ x : ExtOf w2, x.val.cell? ⟨g, 1, none⟩ = some (.int .i64 li) := ExtOf.cell l1
        have d2 : ∀ x : ExtOf w2, x.val.cell? ⟨lb, lo + (li + 1), none⟩ = some (.string ⟨(c2).toArray⟩) := ExtOf.cell l4
        have gg : decide (li + 1 < ln) = true := by simp; omega
        have gg2 : decide ((li : Int) + 1 < (ln : Int)) = true := by simp; omega
        have gn : ((li : Int) + 1).toNat = li + 1 := by omega
        have gn0 : (0 : Int) ≤ (li : Int) + 1 := by omega
        have gn1 : (li : Int) + 1 < (ln : Int) := by omega
        have gw : IntKind.i64.wrap ((li : Int) + 1) = (li : Int) + 1 := IntWalk.i64_in _ (by omega)
        clear l0 l1 l4
        go_upto_region 5 with fail
        refine wp_region_ext (by kernel_rfl) (by kernel_rfl) ?_
        repeat (go_big_quiet_step ((go_at_call 22; exact ext_call (HSEE.out _))))
        refine wpQuiet_nil ?_
        rintro _ ⟨xq, rfl⟩
        clear HSEE d0 d1 d2 gg gg2 gn gn0 gn1 gw
        obtain ⟨w3, hw3⟩ : ∃ w3, w3 = xq.val := ⟨_, rfl⟩
        have hb3 : Below w2.heap.size w2 w3 := hw3 ▸ xq.ext
        rw [← hw3]
        have HRD3 := Lib.hid (HRD2.out.later hb3)
        have HBY3 := Lib.hid ((hb3.block _ (heap_lt HBY2.out)).trans HBY2.out)
        have hg3 := grown_trans hg2 (grown_of_below hb3 (some g))
        have hz3 : w0.heap.size ≤ w3.heap.size := Nat.le_trans hz2 hb3.size
        clear hw3 hb3 HRD2 HBY2 hg2
        have HSEE : Hid (∀ x : ExtOf w3, Calls Try.prog 22 #[.pointer (some ⟨g, 0, none⟩)] x.val fun e w' => e = .returned (.string ⟨((([92] : Str))).toArray⟩) ∧ Below x.val.heap.size x.val w') := Lib.hid fun x => (rsee_any _ (HRD3.out.later x.ext)).mono fun _ _ ⟨h1, h2⟩ => ⟨by rw [h1]; rfl, h2.below _⟩
        obtain ⟨lb, lo, lk, li, ln, l0, l1, l2, l3, l4⟩ := HRD3.out.look1
        have d0 : ∀ x : ExtOf w3, x.val.cell? ⟨g, 0, none⟩ = some (.slice (some ⟨lb, lo, none⟩) ln lk) := ExtOf.cell l0
        have d1 : ∀ x : ExtOf w3, x.val.cell? ⟨g, 1, none⟩ = some (.int .i64 li) := ExtOf.cell l1
        have d2 : ∀ x : ExtOf w3, x.val.cell? ⟨lb, lo + (li + 1), none⟩ = some (.string ⟨(c2).toArray⟩) := ExtOf.cell l4
        have gg : decide (li + 1 < ln) = true := by simp; omega
        have gg2 : decide ((li : Int) + 1 < (ln : Int)) = true := by simp; omega
        have gn : ((li : Int) + 1).toNat = li + 1 := by omega
        have gn0 : (0 : Int) ≤ (li : Int) + 1 := by omega
        have gn1 : (li : Int) + 1 < (ln : Int) := by omega
        have gw : IntKind.i64.wrap ((li : Int) + 1) = (li : Int) + 1 := IntWalk.i64_in _ (by omega)
        clear l0 l1 l4
        go_upto_region 8 with fail
        refine wp_region_ext (by kernel_rfl) (by kernel_rfl) ?_
        repeat (go_big_quiet_step ((go_at_call 22; exact ext_call (HSEE.out _))))
        refine wpQuiet_nil ?_
        rintro _ ⟨xq, rfl⟩
        clear HSEE d0 d1 d2 gg gg2 gn gn0 gn1 gw
        obtain ⟨w4, hw4⟩ : ∃ w4, w4 = xq.val := ⟨_, rfl⟩
        have hb4 : Below w3.heap.size w3 w4 := hw4 ▸ xq.ext
        rw [← hw4]
        have HRD4 := Lib.hid (HRD3.out.later hb4)
        have HBY4 := Lib.hid ((hb4.block _ (heap_lt HBY3.out)).trans HBY3.out)
        have hg4 := grown_trans hg3 (grown_of_below hb4 (some g))
        have hz4 : w0.heap.size ≤ w4.heap.size := Nat.le_trans hz3 hb4.size
        clear hw4 hb4 HRD3 HBY3 hg3
        have HAT := Lib.hid (ratom_any HP.out w4 HRD4.out hlen hd HE.out)
        go_wp2_with (go_at_call 30; refine HAT.out.mono ?_)
        rintro e w5 hq
        clear HAT
        cases hat : atomP (patP n) ([92] :: c2 :: r2) d with
        | error q =>
          rw [hat] at hq
          obtain ⟨hq5, rfl⟩ := hq
          have hq0 : q ≠ 0 := atomP_err (patP_err n) ([92] :: c2 :: r2) d q hat
          have HR2 : Hid (Except.error q = R) := Lib.hid (by rw [← HR.out]; simp only [hat])
          have HR := HR2
          have hg5 := grown_trans hg4 hq5
          have hby5 := box_grown HBY4.out hq5 (by omega)
          have hb6 : Below w5.heap.size w5 (w5.alloc (.cells #[.int .i64 0, .string ⟨#[]⟩, .bool false, .slice none 0 0, .int .i64 0, .int .i64 0, .bool false, .slice none 0 0] 26)) := (Below.refl _ _).alloc (Nat.le_refl _) _
          have hg6 := grown_trans hg5 (grown_of_below hb6 (some g))
          have ne1 : (q != 0) = true := by simp [bne, hq0]
          obtain ⟨f0, f1, f2, f3, f4, f5, f6, f7, f8⟩ := bx_cells (c := []) ((hb6.block _ (heap_lt hby5)).trans hby5)
          clear hat hby5 hb6 hq5
          unfold rxv0
          go_wp2
          refine bodyPost_ret (v := .tuple #[.agg #[.int .i64 0, .string ⟨([]).toArray⟩, .bool false, .slice none 0 0, .int .i64 0, .int .i64 0, .bool false, .slice none 0 0], .int .i64 q]) (by simp [results, Try.results23, go_sem, f0, f1, f2, f3, f4, f5, f6, f7]) rfl ?_
          refine ⟨?_, ?_⟩
          · iterate 8 (refine grown_setNew ?_ (by first | omega | (simp; done) | (simp; omega)) _)
            exact hg6
          · rw [← HR.out]; rfl
        | ok y =>
          obtain ⟨x, r3⟩ := y
          rw [hat] at hq
          obtain ⟨hq5, cc, rfl, hxv, hrd5⟩ := hq
          have HR2 : Hid (quantM x r3 = R) := Lib.hid (by rw [← HR.out]; simp only [hat])
          have HR := HR2
          have hg5 := grown_trans hg4 hq5
          have hby5 := box_grown HBY4.out hq5 (by omega)
          have hz5 := hq5.size
          obtain ⟨k, c, ng, rs, lo, hi, lz, ks⟩ := x
          have hxv0 := hxv
          obtain ⟨ra, rc, ka, kc, rfl, hrs, hks⟩ := hxv.open_
          have hb6 : Below w5.heap.size w5 (w5.alloc (.cells #[.int .i64 k, .string ⟨(c).toArray⟩, .bool ng, .slice ra rs.length rc, .int .i64 lo, .int .i64 hi, .bool lz, .slice ka ks.length kc] 26)) := (Below.refl _ _).alloc (Nat.le_refl _) _
          have HRD6 := Lib.hid (hrd5.later hb6)
          have hg6 := grown_trans hg5 (grown_of_below hb6 (some g))
          have HBY6 := Lib.hid ((hb6.block _ (heap_lt hby5)).trans hby5)
          have hxv6 : RxV _ (fun b => w.heap.size + 1 ≤ b) _ _ := (hxv0.mono (S' := fun b => w.heap.size + 1 ≤ b) fun b hb _ => by omega).later hb6
          have hz6 : w.heap.size + 1 ≤ (w5.alloc (.cells #[.int .i64 k, .string ⟨(c).toArray⟩, .bool ng, .slice ra rs.length rc, .int .i64 lo, .int .i64 hi, .bool lz, .slice ka ks.length kc] 26)).heap.size := by simp; omega
          have HQT := Lib.hid (times_any _ HRD6.out hxv6 hz6 (by omega))
          clear hat hxv hxv0 hrs hks hrd5 hby5 hb6 hxv6 hz6
          unfold rxc at HQT ⊢
          go_wp2_with (go_at_call 31; refine HQT.out.mono ?_)
          rintro e w8 hq
          clear HQT
          cases hres : quantM (.mk k c ng rs lo hi lz ks) r3 with
          | error q =>
            rw [hres] at hq
            obtain ⟨hq8, rfl⟩ := hq
            have HR2 : Hid (Except.error q = R) := Lib.hid (by rw [← HR.out, hres])
            have HR := HR2
            have hg8 := grown_trans hg6 hq8
            obtain ⟨f0, f1, f2, f3, f4, f5, f6, f7, f8⟩ := bx_cells (c := []) (box_grown HBY6.out hq8 (by omega))
            clear hres hq8
            unfold rxv0
            go_wp2
            refine bodyPost_ret (v := .tuple #[.agg #[.int .i64 0, .string ⟨([]).toArray⟩, .bool false, .slice none 0 0, .int .i64 0, .int .i64 0, .bool false, .slice none 0 0], .int .i64 q]) (by simp [results, Try.results23, go_sem, f0, f1, f2, f3, f4, f5, f6, f7]) rfl ?_
            refine ⟨?_, ?_⟩
            · iterate 8 (refine grown_setNew ?_ (by first | omega | (simp; done) | (simp; omega)) _)
              exact hg8
            · rw [← HR.out]; rfl
          | ok y =>
            obtain ⟨x, r3⟩ := y
            rw [hres] at hq
            obtain ⟨hq8, cc, rfl, hxv, hrd9⟩ := hq
            have HR2 : Hid (Except.ok (x, r3) = R) := Lib.hid (by rw [← HR.out, hres])
            have HR := HR2
            have hg8 := grown_trans hg6 hq8
            have HRD9 := Lib.hid hrd9
            obtain ⟨k, c, ng, rs, lo, hi, lz, ks⟩ := x
            have hxv0 := hxv
            obtain ⟨ra, rc, ka, kc, rfl, hrs, hks⟩ := hxv.open_
            have HXV := Lib.hid (hxv0.mono (S' := fun b => w.heap.size ≤ b ∧ b ≠ w.heap.size) fun b hb hlt => by have := hz5; constructor <;> omega)
            obtain ⟨f0, f1, f2, f3, f4, f5, f6, f7, f8⟩ := bx_cells (c := []) (box_grown HBY6.out hq8 (by omega))
            clear hres hq8 hrd9 hxv hxv0 hrs hks
            unfold rxc at HXV ⊢
            go_wp2
            refine bodyPost_ret (v := .tuple #[.agg #[.int .i64 k, .string ⟨(c).toArray⟩, .bool ng, .slice ra rs.length rc, .int .i64 lo, .int .i64 hi, .bool lz, .slice ka ks.length kc], .int .i64 0]) (by simp [results, Try.results23, go_sem, f0, f1, f2, f3, f4, f5, f6, f7]) rfl ?_
            refine ⟨?_, ?_⟩
            · iterate 8 (refine grown_setNew ?_ (by first | omega | (simp; done) | (simp; omega)) _)
              exact hg8
            rw [← HR.out]
            refine ⟨rxc k c ng ra rs.length rc lo hi lz ka ks.length kc, rfl, RxV.mono (S := fun b => w.heap.size ≤ b ∧ b ≠ w.heap.size) (fun b hb _ => hb.1) ?_, ?_⟩
            · iterate 8 (refine RxV.keep (Kept.setLow _ (fun b hb => by have : w.heap.size ≤ b ∧ b ≠ w.heap.size := hb; first | omega | (simp; done) | (simp; omega))) ?_)
              exact HXV.out
            · iterate 8 (refine RdT.setHi ?_ (by first | omega | (simp; done) | (simp; omega)) _)
              exact HRD9.out
    have g92 : (c == [92]) = false := beq_eq_false_iff_ne.2 h92
    have he : edgeM (c :: r1) = none := by simp [edgeM, h94, h36, h92]
    have HE := Lib.hid he
    have HR : Hid ((match atomP (patP n) (c :: r1) d with | .error e => .error e | .ok (x, r1) => quantM x r1) = R) := Lib.hid (by rw [← hR, he]; try rfl)
    clear hR he h94 h36 h92
    obtain ⟨w0, hw0⟩ : ∃ w0, w0 = w.alloc (.cells #[.int .i64 0, .string ⟨#[]⟩, .bool false, .slice none 0 0, .int .i64 0, .int .i64 0, .bool false, .slice none 0 0] 26) := ⟨_, rfl⟩
    obtain ⟨hb0, hz0, hby0⟩ := alloc1 w hw0
    have HRD := Lib.hid (h.later hb0)
    rw [hw0] at HRD
    have HW0 := Lib.hid hw0
    have HBY0 := Lib.hid hby0
    have hgg : w.grownBy w0 (some g) := grown_of_below hb0 _
    have hgr : g < w.heap.size := h.lt
    clear hw0 hby0 h
    go_enter Try.func23, Try.ntmps23
    go_wp2_with (go_at_call 25; refine (rtake_no _ _ HRD.out HT94.out).mono ?_)
    rintro e w1 ⟨rfl, hrd1, hq1⟩
    rw [← HW0.out] at hq1
    have hg1 := grown_trans hgg hq1
    have HBY1 := Lib.hid (box_grown HBY0.out hq1 (by omega))
    have hz1 : w0.heap.size ≤ w1.heap.size := hq1.size
    have HRD1 := Lib.hid hrd1
    clear hrd1 hq1
    go_wp2_with (go_at_call 25; refine (rtake_no _ _ HRD1.out HT36.out).mono ?_)
    rintro e w2 ⟨rfl, hrd2, hq2⟩
    have hg2 := grown_trans hg1 hq2
    have HBY2 := Lib.hid (box_grown HBY1.out hq2 (by omega))
    have hz2 : w0.heap.size ≤ w2.heap.size := Nat.le_trans hz1 hq2.size
    have HRD2 := Lib.hid hrd2
    clear hrd2 hq2
    have HSEE : Hid (∀ x : ExtOf w2, Calls Try.prog 22 #[.pointer (some ⟨g, 0, none⟩)] x.val fun e w' => e = .returned (.string ⟨(c).toArray⟩) ∧ Below x.val.heap.size x.val w') := Lib.hid fun x => (rsee_any _ (HRD2.out.later x.ext)).mono fun _ _ ⟨h1, h2⟩ => ⟨by rw [h1]; rfl, h2.below _⟩
    go_upto_region 5 with fail
    refine wp_region_ext (by kernel_rfl) (by kernel_rfl) ?_
    repeat (go_big_quiet_step ((go_at_call 22; exact ext_call (HSEE.out _))))
    refine wpQuiet_nil ?_
    rintro _ ⟨xq, rfl⟩
    clear HSEE
    obtain ⟨w3, hw3⟩ : ∃ w3, w3 = xq.val := ⟨_, rfl⟩
    have hb3 : Below w2.heap.size w2 w3 := hw3 ▸ xq.ext
    rw [← hw3]
    have HRD3 := Lib.hid (HRD2.out.later hb3)
    have HBY3 := Lib.hid ((hb3.block _ (heap_lt HBY2.out)).trans HBY2.out)
    have hg3 := grown_trans hg2 (grown_of_below hb3 (some g))
    have hz3 : w0.heap.size ≤ w3.heap.size := Nat.le_trans hz2 hb3.size
    clear hw3 hb3 HRD2 HBY2 hg2
    have HSEE : Hid (∀ x : ExtOf w3, Calls Try.prog 22 #[.pointer (some ⟨g, 0, none⟩)] x.val fun e w' => e = .returned (.string ⟨(c).toArray⟩) ∧ Below x.val.heap.size x.val w') := Lib.hid fun x => (rsee_any _ (HRD3.out.later x.ext)).mono fun _ _ ⟨h1, h2⟩ => ⟨by rw [h1]; rfl, h2.below _⟩
    go_upto_region 8 with fail
    refine wp_region_ext (by kernel_rfl) (by kernel_rfl) ?_
    repeat (go_big_quiet_step ((go_at_call 22; exact ext_call (HSEE.out _))))
    refine wpQuiet_nil ?_
    rintro _ ⟨xq, rfl⟩
    clear HSEE
    obtain ⟨w4, hw4⟩ : ∃ w4, w4 = xq.val := ⟨_, rfl⟩
    have hb4 : Below w3.heap.size w3 w4 := hw4 ▸ xq.ext
    rw [← hw4]
    have HRD4 := Lib.hid (HRD3.out.later hb4)
    have HBY4 := Lib.hid ((hb4.block _ (heap_lt HBY3.out)).trans HBY3.out)
    have hg4 := grown_trans hg3 (grown_of_below hb4 (some g))
    have hz4 : w0.heap.size ≤ w4.heap.size := Nat.le_trans hz3 hb4.size
    clear hw4 hb4 HRD3 HBY3 hg3
    have HAT := Lib.hid (ratom_any HP.out w4 HRD4.out hlen hd HE.out)
    go_wp2_with (go_at_call 30; refine HAT.out.mono ?_)
    rintro e w5 hq
    clear HAT
    cases hat : atomP (patP n) (c :: r1) d with
    | error q =>
      rw [hat] at hq
      obtain ⟨hq5, rfl⟩ := hq
      have hq0 : q ≠ 0 := atomP_err (patP_err n) (c :: r1) d q hat
      have HR2 : Hid (Except.error q = R) := Lib.hid (by rw [← HR.out]; simp only [hat])
      have HR := HR2
      have hg5 := grown_trans hg4 hq5
      have hby5 := box_grown HBY4.out hq5 (by omega)
      have hb6 : Below w5.heap.size w5 (w5.alloc (.cells #[.int .i64 0, .string ⟨#[]⟩, .bool false, .slice none 0 0, .int .i64 0, .int .i64 0, .bool false, .slice none 0 0] 26)) := (Below.refl _ _).alloc (Nat.le_refl _) _
      have hg6 := grown_trans hg5 (grown_of_below hb6 (some g))
      have ne1 : (q != 0) = true := by simp [bne, hq0]
      obtain ⟨f0, f1, f2, f3, f4, f5, f6, f7, f8⟩ := bx_cells (c := []) ((hb6.block _ (heap_lt hby5)).trans hby5)
      clear hat hby5 hb6 hq5
      unfold rxv0
      go_wp2
      refine bodyPost_ret (v := .tuple #[.agg #[.int .i64 0, .string ⟨([]).toArray⟩, .bool false, .slice none 0 0, .int .i64 0, .int .i64 0, .bool false, .slice none 0 0], .int .i64 q]) (by simp [results, Try.results23, go_sem, f0, f1, f2, f3, f4, f5, f6, f7]) rfl ?_
      refine ⟨?_, ?_⟩
      · iterate 8 (refine grown_setNew ?_ (by first | omega | (simp; done) | (simp; omega)) _)
        exact hg6
      · rw [← HR.out]; rfl
    | ok y =>
      obtain ⟨x, r3⟩ := y
      rw [hat] at hq
      obtain ⟨hq5, cc, rfl, hxv, hrd5⟩ := hq
      have HR2 : Hid (quantM x r3 = R) := Lib.hid (by rw [← HR.out]; simp only [hat])
      have HR := HR2
      have hg5 := grown_trans hg4 hq5
      have hby5 := box_grown HBY4.out hq5 (by omega)
      have hz5 := hq5.size
      obtain ⟨k, c, ng, rs, lo, hi, lz, ks⟩ := x
      have hxv0 := hxv
      obtain ⟨ra, rc, ka, kc, rfl, hrs, hks⟩ := hxv.open_
      have hb6 : Below w5.heap.size w5 (w5.alloc (.cells #[.int .i64 k, .string ⟨(c).toArray⟩, .bool ng, .slice ra rs.length rc, .int .i64 lo, .int .i64 hi, .bool lz, .slice ka ks.length kc] 26)) := (Below.refl _ _).alloc (Nat.le_refl _) _
      have HRD6 := Lib.hid (hrd5.later hb6)
      have hg6 := grown_trans hg5 (grown_of_below hb6 (some g))
      have HBY6 := Lib.hid ((hb6.block _ (heap_lt hby5)).trans hby5)
      have hxv6 : RxV _ (fun b => w.heap.size + 1 ≤ b) _ _ := (hxv0.mono (S' := fun b => w.heap.size + 1 ≤ b) fun b hb _ => by omega).later hb6
      have hz6 : w.heap.size + 1 ≤ (w5.alloc (.cells #[.int .i64 k, .string ⟨(c).toArray⟩, .bool ng, .slice ra rs.length rc, .int .i64 lo, .int .i64 hi, .bool lz, .slice ka ks.length kc] 26)).heap.size := by simp; omega
      have HQT := Lib.hid (times_any _ HRD6.out hxv6 hz6 (by omega))
      clear hat hxv hxv0 hrs hks hrd5 hby5 hb6 hxv6 hz6
      unfold rxc at HQT ⊢
      go_wp2_with (go_at_call 31; refine HQT.out.mono ?_)
      rintro e w8 hq
      clear HQT
      cases hres : quantM (.mk k c ng rs lo hi lz ks) r3 with
      | error q =>
        rw [hres] at hq
        obtain ⟨hq8, rfl⟩ := hq
        have HR2 : Hid (Except.error q = R) := Lib.hid (by rw [← HR.out, hres])
        have HR := HR2
        have hg8 := grown_trans hg6 hq8
        obtain ⟨f0, f1, f2, f3, f4, f5, f6, f7, f8⟩ := bx_cells (c := []) (box_grown HBY6.out hq8 (by omega))
        clear hres hq8
        unfold rxv0
        go_wp2
        refine bodyPost_ret (v := .tuple #[.agg #[.int .i64 0, .string ⟨([]).toArray⟩, .bool false, .slice none 0 0, .int .i64 0, .int .i64 0, .bool false, .slice none 0 0], .int .i64 q]) (by simp [results, Try.results23, go_sem, f0, f1, f2, f3, f4, f5, f6, f7]) rfl ?_
        refine ⟨?_, ?_⟩
        · iterate 8 (refine grown_setNew ?_ (by first | omega | (simp; done) | (simp; omega)) _)
          exact hg8
        · rw [← HR.out]; rfl
      | ok y =>
        obtain ⟨x, r3⟩ := y
        rw [hres] at hq
        obtain ⟨hq8, cc, rfl, hxv, hrd9⟩ := hq
        have HR2 : Hid (Except.ok (x, r3) = R) := Lib.hid (by rw [← HR.out, hres])
        have HR := HR2
        have hg8 := grown_trans hg6 hq8
        have HRD9 := Lib.hid hrd9
        obtain ⟨k, c, ng, rs, lo, hi, lz, ks⟩ := x
        have hxv0 := hxv
        obtain ⟨ra, rc, ka, kc, rfl, hrs, hks⟩ := hxv.open_
        have HXV := Lib.hid (hxv0.mono (S' := fun b => w.heap.size ≤ b ∧ b ≠ w.heap.size) fun b hb hlt => by have := hz5; constructor <;> omega)
        obtain ⟨f0, f1, f2, f3, f4, f5, f6, f7, f8⟩ := bx_cells (c := []) (box_grown HBY6.out hq8 (by omega))
        clear hres hq8 hrd9 hxv hxv0 hrs hks
        unfold rxc at HXV ⊢
        go_wp2
        refine bodyPost_ret (v := .tuple #[.agg #[.int .i64 k, .string ⟨(c).toArray⟩, .bool ng, .slice ra rs.length rc, .int .i64 lo, .int .i64 hi, .bool lz, .slice ka ks.length kc], .int .i64 0]) (by simp [results, Try.results23, go_sem, f0, f1, f2, f3, f4, f5, f6, f7]) rfl ?_
        refine ⟨?_, ?_⟩
        · iterate 8 (refine grown_setNew ?_ (by first | omega | (simp; done) | (simp; omega)) _)
          exact hg8
        rw [← HR.out]
        refine ⟨rxc k c ng ra rs.length rc lo hi lz ka ks.length kc, rfl, RxV.mono (S := fun b => w.heap.size ≤ b ∧ b ≠ w.heap.size) (fun b hb _ => hb.1) ?_, ?_⟩
        · iterate 8 (refine RxV.keep (Kept.setLow _ (fun b hb => by have : w.heap.size ≤ b ∧ b ≠ w.heap.size := hb; first | omega | (simp; done) | (simp; omega))) ?_)
          exact HXV.out
        · iterate 8 (refine RdT.setHi ?_ (by first | omega | (simp; done) | (simp; omega)) _)
          exact HRD9.out
end Go.Proofs.Ytemophfieihgaaa
set_option maxRecDepth 100000
namespace Go.Proofs.Ytemophfieihgaaa
open Go.RowKit
def ZSeqRes (B : Nat) (y : Rx) (w : World) (e : Ending) (w' : World) : Prop := ∃ cc', e = .returned (.agg cc'.toArray) ∧ RxV w' (fun b => B ≤ b) cc' y ∧ Below w.heap.size w w'
theorem RSeq_res {B : Nat} {a : Option Addr} {n c : Nat} {xs : List Rx} (w : World) (h : OwnX w B (.slice a n c) xs) (hp : Rx.partsL xs ≤ 1000000) (hB : B ≤ w.heap.size) :
    Calls Try.prog 24 #[.slice a n c] w fun e w' => ZSeqRes B (seqR xs) w e w' := by
  obtain ⟨rfl, h2⟩ := h.sl
  refine (RSeq_any _ a c xs w h2 hp).mono ?_
  rintro e w' ⟨cc, h1, h2, h3⟩
  exact ⟨cc, h1, h2.mono fun b hb _ => hb.elim (fun h => h.1) (fun h => Nat.le_trans hB h), h3⟩
theorem RAlt_res {B : Nat} {a : Option Addr} {n c : Nat} {xs : List Rx} (w : World) (h : OwnX w B (.slice a n c) xs) (hp : Rx.partsL xs ≤ 1000000) (hB : B ≤ w.heap.size) :
    Calls Try.prog 26 #[.slice a n c] w fun e w' => ZSeqRes B (altR xs) w e w' := by
  obtain ⟨rfl, h2⟩ := h.sl
  refine (RAlt_any _ a c xs w h2 hp).mono ?_
  rintro e w' ⟨cc, h1, h2, h3⟩
  exact ⟨cc, h1, h2.mono fun b hb _ => hb.elim (fun h => h.1) (fun h => Nat.le_trans hB h), h3⟩
def ZPatO (n g d : Nat) (w0 : World) (R : Res) (k : Nat) (va : Value) (wr : World) : Prop :=
  ∃ (alts : List Rx) (r : List Str), OwnX wr w0.heap.size va alts ∧ w0.grownBy wr (some g) ∧ Rd2 wr g r ∧ r.length < k ∧ r.length ≤ n ∧ Hid (Rx.smallL alts) ∧ Rx.partsL alts + 2 * r.length ≤ 450000 ∧
    Hid (patL (fun r => termP (patP n) r d) k alts [] r = R)
def ZPatI (n g d K : Nat) (wa : World) (alts : List Rx) (R : Res) (k : Nat) (vt : Value) (wr : World) : Prop :=
  ∃ (terms : List Rx) (r : List Str), wa.grownBy wr (some g) ∧ OwnX wr wa.heap.size vt terms ∧ Rd2 wr g r ∧ r.length < k ∧ k ≤ K ∧ r.length ≤ n ∧ Hid (Rx.smallL terms) ∧ Rx.partsL alts + Rx.partsL terms + 2 * r.length ≤ 450000 ∧
    Hid (patL (fun r => termP (patP n) r d) k alts terms r = R)
/- what the look at the next character needs -/
set_option maxHeartbeats 4000000 in
theorem rpattern_step {n : Nat} (hp : PatQ n) : PatQ (n + 1) := by
  intro g d r w h hlen hd
  obtain ⟨R, hR⟩ : ∃ R, patP (n + 1) r d = R := ⟨_, rfl⟩
  rw [hR]
  have hR2 : patL (fun r => termP (patP n) r d) (r.length + 1) [] [] r = R := hR
  have HR0 := Lib.hid hR2
  have HP := Lib.hid hp
  have hrl := h.ok.2
  obtain ⟨ix, hix⟩ := info_parts rx_info
  clear hR hR2 hp
  obtain ⟨w0, hw0⟩ : ∃ w0, w0 = w.alloc (.cells #[.int .i64 0, .string ⟨#[]⟩, .bool false, .slice none 0 0, .int .i64 0, .int .i64 0, .bool false, .slice none 0 0] 26) := ⟨_, rfl⟩
  obtain ⟨hb0, hz0, hby0⟩ := alloc1 w hw0
  have HRD := Lib.hid (h.later hb0)
  rw [hw0] at HRD
  have HW0 := Lib.hid hw0
  have HBY0 := Lib.hid hby0
  have hgg : w.grownBy w0 (some g) := grown_of_below hb0 _
  have hgr : g < w.heap.size := h.lt
  clear hw0 hby0 h
  have HRD0 : Hid (Rd2 w0 g r) := Lib.hid (HW0.out ▸ HRD.out)
  obtain ⟨hz0e, hz0'⟩ : w0.heap.size = w.heap.size + 1 ∧ w.heap.size + 1 ≤ w0.heap.size := ⟨hz0, by omega⟩
  clear hz0e hz0 HRD
  go_enter Try.func13, Try.ntmps13
  go_wp2
  rw [← HW0.out]
  go_loopg [6] (r.length + 1) (fun k va wr => ZPatO n g d w0 R k va wr)
  case atStart => exact ⟨[], r, OwnX.nil _ _, grown_refl _ _, HRD0.out, by omega, by omega, Lib.hid trivial, by simp only [Rx.partsL]; omega, HR0⟩
  case round =>
    clear HR0 HRD0
    obtain ⟨alts, r, hoa, hga, hrd, hk, hn, HSA, hpl, HF⟩ := hrel
    have HOA := Lib.hid hoa
    have HRD0 := Lib.hid hrd
    have hza := hga.size
    obtain ⟨wa, rfl⟩ : ∃ wa : World, wa = wr := ⟨_, rfl⟩
    obtain ⟨K, hKK⟩ : ∃ K, K = gk := ⟨_, rfl⟩
    clear hoa hrd
    go_wp2
    go_loopg [7] gk (fun k vt wr => ZPatI n g d K wa alts R k vt wr)
    case atStart => exact ⟨[], r, grown_refl _ _, OwnX.nil _ _, HRD0.out, hk, by omega, hn, Lib.hid trivial, by simp only [Rx.partsL]; omega, HF⟩
    case round =>
      clear HF HRD0
      obtain ⟨terms, r, hgr1, hot, hrd, hk, hkK, hn, HSM, hpl, HF⟩ := hrel
      obtain ⟨k, rfl⟩ : ∃ k', gk = k' + 1 := ⟨gk - 1, by omega⟩
      have HRD := Lib.hid hrd
      have HOT := Lib.hid hot
      have hok := hrd.ok.1
      have hzr := hgr1.size
      clear hot hrd
      cases r with
      | nil =>
        have HF2 : Hid (Except.ok (altR (alts ++ [seqR terms]), []) = R) := Lib.hid HF.out
        clear HF hok
        obtain ⟨la, lk, ll, li, c0, c1, _, _, hll, hli, _, hld, _⟩ := HRD.out.cells
        have d0 : ∀ x : ExtOf wr, x.val.cell? ⟨g, 0, none⟩ = some (.slice la ll.length lk) := ExtOf.cell c0
        have d1 : ∀ x : ExtOf wr, x.val.cell? ⟨g, 1, none⟩ = some (.int .i64 li) := ExtOf.cell c1
        have HSEE : Hid (∀ x : ExtOf wr, Calls Try.prog 22 #[.pointer (some ⟨g, 0, none⟩)] x.val fun e w' => e = .returned (.string ⟨(([] : Str)).toArray⟩) ∧ Below x.val.heap.size x.val w') := Lib.hid fun x => (rsee_any _ (HRD.out.later x.ext)).mono fun _ _ ⟨h1, h2⟩ => ⟨by rw [h1]; rfl, h2.below _⟩
        clear c0 c1
        have hli2 := ldrop_none hld
        have gg : decide (li < ll.length) = false := by simp; omega
        have gg2 : decide ((li : Int) < (ll.length : Int)) = false := by simp; omega
        clear hld
        go_upto_region 3 with fail
        refine wp_region_ext (by kernel_rfl) (by kernel_rfl) ?_
        repeat (go_big_quiet_step ((go_at_call 22; exact ext_call (HSEE.out _))))
        refine wpQuiet_nil ?_
        rintro _ ⟨xq, rfl⟩
        clear gg gg2
        obtain ⟨w1, hw1⟩ : ∃ w1, w1 = xq.val := ⟨_, rfl⟩
        have hbq : Below wr.heap.size wr w1 := hw1 ▸ xq.ext
        rw [← hw1]
        have HRD1 := Lib.hid (HRD.out.later hbq)
        have hg1 := grown_trans hgr1 (grown_of_below hbq (some g))
        have OWT := HOT.out.later hbq
        have OWA := HOA.out.keepG hg1 (by omega)
        have hgw1 := grown_trans hga hg1
        have hz1 := hg1.size
        clear hw1 hbq HRD HOT HSEE d0 d1
        obtain ⟨css, hca, hva⟩ := OWA
        obtain ⟨csst, hct, hvt⟩ := OWT
        obtain ⟨ta, tc, rfl⟩ := own_form hct
        obtain ⟨aa, ac, rfl⟩ := own_form hca
        have HSEQ := Lib.hid (RSeq_res w1 ⟨csst, hct, hvt⟩ (by omega) hz1)
        have HCA := Lib.hid hca
        have HVA := Lib.hid hva
        have hlta := (show OwnX wa w0.heap.size _ alts from HOA.out).lt
        have hlta1 := hca.lt
        clear hca hva hct hvt HOA
        go_wp2_with (go_at_call 24; refine HSEQ.out.mono ?_)
        rintro e w5 hq5
        obtain ⟨cc5, rfl, hx5, hb5⟩ := hq5
        obtain ⟨yk, yc, yn, yr, yl, yh, yz, ys, za, zc, zka, zkc, hy, rfl⟩ := hx5.box
        rw [hy] at hx5
        have hbn := (Below.refl w5.heap.size w5).alloc (Nat.le_refl _) (.cells (rxc yk yc yn za yr.length zc yl yh yz zka ys.length zkc).toArray 26)
        have ho6 := own_below (own_below HCA.out hb5) hbn
        have hsl6 := Sl.lit (n := 1) (sz := 8) (heap_alloc_new w5 (.cells (rxc yk yc yn za yr.length zc yl yh yz zka ys.length zkc).toArray 26)) rfl
        have hrv6 := (HVA.out.later hb5).later hbn
        have hcv6 := hx5.later hbn
        have hone := hx5.one
        have hz5 := hb5.size
        unfold rxc at ho6 hsl6 hrv6 hcv6 hone hbn
        have HO6 := Lib.hid ho6; have HSL6 := Lib.hid hsl6; have HRV6 := Lib.hid hrv6; have HCV6 := Lib.hid hcv6; have HONE := Lib.hid hone
        have HY := Lib.hid hy
        clear ho6 hsl6 hrv6 hcv6 hone hx5 hy HSEQ HCA HVA
        unfold rxc
        have hlen6 := Rx.len_parts alts
        go_wp2_with (at_builtin; refine wpList_appM w0.heap.size 26 rfl _ _ 24 rfl Try.underlying24 hix rfl (by decide) rfl HO6.out rfl HSL6.out HONE.out (by omega) (by omega) (by decide) (by simp; omega) ?_)
        intro v7 w7 ho7 hq7 hb7 hmv
        have hox7 : OwnX w7 w0.heap.size v7 (alts ++ [seqR terms]) := by
          rw [HY.out]
          refine OwnX.app (ds := [_]) (m := 1) HRV6.out (.cons (HCV6.out.mono fun b hb _ => ?_) .nil) rfl ?_ hq7 hmv
          · exact ⟨by omega, fun e => by have := (hlta b e).2; omega⟩
          · simpa using ho7
        obtain ⟨s1, s2, s3⟩ := seqR_facts HSM.out (by omega)
        have hpa : Rx.partsL (alts ++ [seqR terms]) = Rx.partsL alts + (seqR terms).parts := by rw [partsL_app]; simp only [Rx.partsL]; omega
        have hsa : Rx.smallL (alts ++ [seqR terms]) := smallL_app HSA.out ⟨s1, trivial⟩
        have hg05 := grown_trans hgw1 (grown_of_below hb5 (some g))
        have hg06 := grown_trans hg05 (grown_of_below hbn (some g))
        have hg07 := cls_grown hg06 hb7 (Nat.le_refl _)
        have HRD7 := Lib.hid (((HRD1.out.later hb5).later hbn).grownHi hq7 (fun k hk => by have := (hlta1 k hk).1; omega))
        have HOX7 := Lib.hid hox7
        have HSA7 := Lib.hid hsa
        clear hox7 s1 hsa hq7 hmv ho7 hg05 hg06 hlta hlta1
        obtain ⟨a7, n7, c7, hv7⟩ := HOX7.out.form
        subst hv7
        go_wp2_with (go_at_call 25; refine (rtake_no _ _ HRD7.out rfl).mono ?_)
        rintro e w9 ⟨rfl, hrd9, hq9⟩
        have HOX9 := HOX7.out.keepG hq9 (by omega)
        have HRD9 := Lib.hid hrd9
        have hg09 := grown_trans hg07 hq9
        have hz09 := hg09.size
        have HALT := Lib.hid (RAlt_res w9 HOX9 (by omega) (by omega))
        clear HOX9 hrd9 hq9
        go_wp2_with (go_at_call 26; refine HALT.out.mono ?_)
        rintro e w8 hq8
        obtain ⟨cc8, rfl, hx8, hb8⟩ := hq8
        have hg08 := grown_trans hg09 (grown_of_below hb8 (some g))
        have hg8 := grown_trans hgg hg08
        have HRD8 := Lib.hid (HRD9.out.later hb8)
        obtain ⟨xk, xc, xn, xr, xl, xh, xz, xs, xa, xrc, xka, xkc, hy8, rfl⟩ := hx8.box
        have HR2 : Hid (Except.ok (Rx.mk xk xc xn xr xl xh xz xs, _) = R) := Lib.hid (hy8 ▸ HF2.out)
        have HR := HR2
        rw [hy8] at hx8
        have HXV := Lib.hid (hx8.mono (S' := fun b => w.heap.size ≤ b ∧ b ≠ w.heap.size) fun b hb hlt => by constructor <;> omega)
        obtain ⟨f0, f1, f2, f3, f4, f5, f6, f7, f8⟩ := bx_cells (c := []) (box_grown HBY0.out hg08 (by omega))
        clear hx8 hy8 HALT HRD7
        unfold rxc at HXV ⊢
        go_wp2
        refine bodyPost_ret (v := .tuple #[.agg #[.int .i64 xk, .string ⟨(xc).toArray⟩, .bool xn, .slice xa xr.length xrc, .int .i64 xl, .int .i64 xh, .bool xz, .slice xka xs.length xkc], .int .i64 0]) (by simp [results, Try.results13, go_sem, f0, f1, f2, f3, f4, f5, f6, f7]) rfl ?_
        refine ⟨?_, ?_⟩
        · iterate 8 (refine grown_setNew ?_ (by first | omega | (simp; done) | (simp; omega)) _)
          exact hg8
        rw [← HR.out]
        refine ⟨rxc xk xc xn xa xr.length xrc xl xh xz xka xs.length xkc, rfl, RxV.mono (S := fun b => w.heap.size ≤ b ∧ b ≠ w.heap.size) (fun b hb _ => hb.1) ?_, ?_⟩
        · iterate 8 (refine RxV.keep (Kept.setLow _ (fun b hb => by have : w.heap.size ≤ b ∧ b ≠ w.heap.size := hb; first | omega | (simp; done) | (simp; omega))) ?_)
          exact HXV.out
        · iterate 8 (refine RdT.setHi ?_ (by first | omega | (simp; done) | (simp; omega)) _)
          exact HRD8.out
      | cons c r1 =>
        obtain ⟨la, lk, ll, li, c0, c1, _, _, hll, hli, _, hld, _⟩ := HRD.out.cells
        have d0 : ∀ x : ExtOf wr, x.val.cell? ⟨g, 0, none⟩ = some (.slice la ll.length lk) := ExtOf.cell c0
        have d1 : ∀ x : ExtOf wr, x.val.cell? ⟨g, 1, none⟩ = some (.int .i64 li) := ExtOf.cell c1
        have HSEE : Hid (∀ x : ExtOf wr, Calls Try.prog 22 #[.pointer (some ⟨g, 0, none⟩)] x.val fun e w' => e = .returned (.string ⟨(c).toArray⟩) ∧ Below x.val.heap.size x.val w') := Lib.hid fun x => (rsee_any _ (HRD.out.later x.ext)).mono fun _ _ ⟨h1, h2⟩ => ⟨by rw [h1]; rfl, h2.below _⟩
        clear c0 c1
        obtain ⟨hli2, _, _⟩ := ldrop_cons hld
        have gg : decide (li < ll.length) = true := by simp; omega
        have gg2 : decide ((li : Int) < (ll.length : Int)) = true := by simp; omega
        clear hld
        simp only [List.length_cons] at hk hn hpl
        by_cases h124 : c = [124]
        · subst h124
          have HF2 : Hid (patL (fun r => termP (patP n) r d) k (alts ++ [seqR terms]) [] r1 = R) := Lib.hid HF.out
          clear HF hok
          go_upto_region 3 with fail
          refine wp_region_ext (by kernel_rfl) (by kernel_rfl) ?_
          repeat (go_big_quiet_step ((go_at_call 22; exact ext_call (HSEE.out _))))
          refine wpQuiet_nil ?_
          rintro _ ⟨xq, rfl⟩
          clear gg gg2
          obtain ⟨w1, hw1⟩ : ∃ w1, w1 = xq.val := ⟨_, rfl⟩
          have hbq : Below wr.heap.size wr w1 := hw1 ▸ xq.ext
          rw [← hw1]
          have HRD1 := Lib.hid (HRD.out.later hbq)
          have hg1 := grown_trans hgr1 (grown_of_below hbq (some g))
          have OWT := HOT.out.later hbq
          have OWA := HOA.out.keepG hg1 (by omega)
          have hgw1 := grown_trans hga hg1
          have hz1 := hg1.size
          clear hw1 hbq HRD HOT HSEE d0 d1
          obtain ⟨css, hca, hva⟩ := OWA
          obtain ⟨csst, hct, hvt⟩ := OWT
          obtain ⟨ta, tc, rfl⟩ := own_form hct
          obtain ⟨aa, ac, rfl⟩ := own_form hca
          have HSEQ := Lib.hid (RSeq_res w1 ⟨csst, hct, hvt⟩ (by omega) hz1)
          have HCA := Lib.hid hca
          have HVA := Lib.hid hva
          have hlta := (show OwnX wa w0.heap.size _ alts from HOA.out).lt
          have hlta1 := hca.lt
          clear hca hva hct hvt HOA
          go_wp2_with (go_at_call 24; refine HSEQ.out.mono ?_)
          rintro e w5 hq5
          obtain ⟨cc5, rfl, hx5, hb5⟩ := hq5
          obtain ⟨yk, yc, yn, yr, yl, yh, yz, ys, za, zc, zka, zkc, hy, rfl⟩ := hx5.box
          rw [hy] at hx5
          have hbn := (Below.refl w5.heap.size w5).alloc (Nat.le_refl _) (.cells (rxc yk yc yn za yr.length zc yl yh yz zka ys.length zkc).toArray 26)
          have ho6 := own_below (own_below HCA.out hb5) hbn
          have hsl6 := Sl.lit (n := 1) (sz := 8) (heap_alloc_new w5 (.cells (rxc yk yc yn za yr.length zc yl yh yz zka ys.length zkc).toArray 26)) rfl
          have hrv6 := (HVA.out.later hb5).later hbn
          have hcv6 := hx5.later hbn
          have hone := hx5.one
          have hz5 := hb5.size
          unfold rxc at ho6 hsl6 hrv6 hcv6 hone hbn
          have HO6 := Lib.hid ho6; have HSL6 := Lib.hid hsl6; have HRV6 := Lib.hid hrv6; have HCV6 := Lib.hid hcv6; have HONE := Lib.hid hone
          have HY := Lib.hid hy
          clear ho6 hsl6 hrv6 hcv6 hone hx5 hy HSEQ HCA HVA
          unfold rxc
          have hlen6 := Rx.len_parts alts
          go_wp2_with (at_builtin; refine wpList_appM w0.heap.size 26 rfl _ _ 24 rfl Try.underlying24 hix rfl (by decide) rfl HO6.out rfl HSL6.out HONE.out (by omega) (by omega) (by decide) (by simp; omega) ?_)
          intro v7 w7 ho7 hq7 hb7 hmv
          have hox7 : OwnX w7 w0.heap.size v7 (alts ++ [seqR terms]) := by
            rw [HY.out]
            refine OwnX.app (ds := [_]) (m := 1) HRV6.out (.cons (HCV6.out.mono fun b hb _ => ?_) .nil) rfl ?_ hq7 hmv
            · exact ⟨by omega, fun e => by have := (hlta b e).2; omega⟩
            · simpa using ho7
          obtain ⟨s1, s2, s3⟩ := seqR_facts HSM.out (by omega)
          have hpa : Rx.partsL (alts ++ [seqR terms]) = Rx.partsL alts + (seqR terms).parts := by rw [partsL_app]; simp only [Rx.partsL]; omega
          have hsa : Rx.smallL (alts ++ [seqR terms]) := smallL_app HSA.out ⟨s1, trivial⟩
          have hg05 := grown_trans hgw1 (grown_of_below hb5 (some g))
          have hg06 := grown_trans hg05 (grown_of_below hbn (some g))
          have hg07 := cls_grown hg06 hb7 (Nat.le_refl _)
          have HRD7 := Lib.hid (((HRD1.out.later hb5).later hbn).grownHi hq7 (fun k hk => by have := (hlta1 k hk).1; omega))
          have HOX7 := Lib.hid hox7
          have HSA7 := Lib.hid hsa
          clear hox7 s1 hsa hq7 hmv ho7 hg05 hg06 hlta hlta1
          go_wp2_with (go_at_call 25; refine (rtake_some _ HRD7.out (takeM_eq [124] r1)).mono ?_)
          rintro e w9 ⟨rfl, hrd9, hq9⟩
          have hox9 := HOX7.out.keepG hq9 (by omega)
          have hg09 := grown_trans hg07 hq9
          have hpa9 : Rx.partsL (alts ++ [seqR terms]) + 2 * r1.length ≤ 450000 := by omega
          clear hq9 HOX7 HRD7
          go_wp2
          go_roundg k
          case measure => omega
          case rel => exact ⟨_, r1, hox9, hg09, hrd9, by omega, by omega, HSA7, hpa9, HF2⟩
        by_cases h41 : c = [41]
        · subst h41
          have HF2 : Hid (Except.ok (altR (alts ++ [seqR terms]), [41] :: r1) = R) := Lib.hid HF.out
          clear HF hok h124
          go_upto_region 3 with fail
          refine wp_region_ext (by kernel_rfl) (by kernel_rfl) ?_
          repeat (go_big_quiet_step ((go_at_call 22; exact ext_call (HSEE.out _))))
          refine wpQuiet_nil ?_
          rintro _ ⟨xq, rfl⟩
          clear gg gg2
          obtain ⟨w1, hw1⟩ : ∃ w1, w1 = xq.val := ⟨_, rfl⟩
          have hbq : Below wr.heap.size wr w1 := hw1 ▸ xq.ext
          rw [← hw1]
          have HRD1 := Lib.hid (HRD.out.later hbq)
          have hg1 := grown_trans hgr1 (grown_of_below hbq (some g))
          have OWT := HOT.out.later hbq
          have OWA := HOA.out.keepG hg1 (by omega)
          have hgw1 := grown_trans hga hg1
          have hz1 := hg1.size
          clear hw1 hbq HRD HOT HSEE d0 d1
          obtain ⟨css, hca, hva⟩ := OWA
          obtain ⟨csst, hct, hvt⟩ := OWT
          obtain ⟨ta, tc, rfl⟩ := own_form hct
          obtain ⟨aa, ac, rfl⟩ := own_form hca
          have HSEQ := Lib.hid (RSeq_res w1 ⟨csst, hct, hvt⟩ (by omega) hz1)
          have HCA := Lib.hid hca
          have HVA := Lib.hid hva
          have hlta := (show OwnX wa w0.heap.size _ alts from HOA.out).lt
          have hlta1 := hca.lt
          clear hca hva hct hvt HOA
          go_wp2_with (go_at_call 24; refine HSEQ.out.mono ?_)
          rintro e w5 hq5
          obtain ⟨cc5, rfl, hx5, hb5⟩ := hq5
          obtain ⟨yk, yc, yn, yr, yl, yh, yz, ys, za, zc, zka, zkc, hy, rfl⟩ := hx5.box
          rw [hy] at hx5
          have hbn := (Below.refl w5.heap.size w5).alloc (Nat.le_refl _) (.cells (rxc yk yc yn za yr.length zc yl yh yz zka ys.length zkc).toArray 26)
          have ho6 := own_below (own_below HCA.out hb5) hbn
          have hsl6 := Sl.lit (n := 1) (sz := 8) (heap_alloc_new w5 (.cells (rxc yk yc yn za yr.length zc yl yh yz zka ys.length zkc).toArray 26)) rfl
          have hrv6 := (HVA.out.later hb5).later hbn
          have hcv6 := hx5.later hbn
          have hone := hx5.one
          have hz5 := hb5.size
          unfold rxc at ho6 hsl6 hrv6 hcv6 hone hbn
          have HO6 := Lib.hid ho6; have HSL6 := Lib.hid hsl6; have HRV6 := Lib.hid hrv6; have HCV6 := Lib.hid hcv6; have HONE := Lib.hid hone
          have HY := Lib.hid hy
          clear ho6 hsl6 hrv6 hcv6 hone hx5 hy HSEQ HCA HVA
          unfold rxc
          have hlen6 := Rx.len_parts alts
          go_wp2_with (at_builtin; refine wpList_appM w0.heap.size 26 rfl _ _ 24 rfl Try.underlying24 hix rfl (by decide) rfl HO6.out rfl HSL6.out HONE.out (by omega) (by omega) (by decide) (by simp; omega) ?_)
          intro v7 w7 ho7 hq7 hb7 hmv
          have hox7 : OwnX w7 w0.heap.size v7 (alts ++ [seqR terms]) := by
            rw [HY.out]
            refine OwnX.app (ds := [_]) (m := 1) HRV6.out (.cons (HCV6.out.mono fun b hb _ => ?_) .nil) rfl ?_ hq7 hmv
            · exact ⟨by omega, fun e => by have := (hlta b e).2; omega⟩
            · simpa using ho7
          obtain ⟨s1, s2, s3⟩ := seqR_facts HSM.out (by omega)
          have hpa : Rx.partsL (alts ++ [seqR terms]) = Rx.partsL alts + (seqR terms).parts := by rw [partsL_app]; simp only [Rx.partsL]; omega
          have hsa : Rx.smallL (alts ++ [seqR terms]) := smallL_app HSA.out ⟨s1, trivial⟩
          have hg05 := grown_trans hgw1 (grown_of_below hb5 (some g))
          have hg06 := grown_trans hg05 (grown_of_below hbn (some g))
          have hg07 := cls_grown hg06 hb7 (Nat.le_refl _)
          have HRD7 := Lib.hid (((HRD1.out.later hb5).later hbn).grownHi hq7 (fun k hk => by have := (hlta1 k hk).1; omega))
          have HOX7 := Lib.hid hox7
          have HSA7 := Lib.hid hsa
          clear hox7 s1 hsa hq7 hmv ho7 hg05 hg06 hlta hlta1
          obtain ⟨a7, n7, c7, hv7⟩ := HOX7.out.form
          subst hv7
          go_wp2_with (go_at_call 25; refine (rtake_no _ _ HRD7.out (takeM_ne (by decide))).mono ?_)
          rintro e w9 ⟨rfl, hrd9, hq9⟩
          have HOX9 := HOX7.out.keepG hq9 (by omega)
          have HRD9 := Lib.hid hrd9
          have hg09 := grown_trans hg07 hq9
          have hz09 := hg09.size
          have HALT := Lib.hid (RAlt_res w9 HOX9 (by omega) (by omega))
          clear HOX9 hrd9 hq9
          go_wp2_with (go_at_call 26; refine HALT.out.mono ?_)
          rintro e w8 hq8
          obtain ⟨cc8, rfl, hx8, hb8⟩ := hq8
          have hg08 := grown_trans hg09 (grown_of_below hb8 (some g))
          have hg8 := grown_trans hgg hg08
          have HRD8 := Lib.hid (HRD9.out.later hb8)
          obtain ⟨xk, xc, xn, xr, xl, xh, xz, xs, xa, xrc, xka, xkc, hy8, rfl⟩ := hx8.box
          have HR2 : Hid (Except.ok (Rx.mk xk xc xn xr xl xh xz xs, _) = R) := Lib.hid (hy8 ▸ HF2.out)
          have HR := HR2
          rw [hy8] at hx8
          have HXV := Lib.hid (hx8.mono (S' := fun b => w.heap.size ≤ b ∧ b ≠ w.heap.size) fun b hb hlt => by constructor <;> omega)
          obtain ⟨f0, f1, f2, f3, f4, f5, f6, f7, f8⟩ := bx_cells (c := []) (box_grown HBY0.out hg08 (by omega))
          clear hx8 hy8 HALT HRD7
          unfold rxc at HXV ⊢
          go_wp2
          refine bodyPost_ret (v := .tuple #[.agg #[.int .i64 xk, .string ⟨(xc).toArray⟩, .bool xn, .slice xa xr.length xrc, .int .i64 xl, .int .i64 xh, .bool xz, .slice xka xs.length xkc], .int .i64 0]) (by simp [results, Try.results13, go_sem, f0, f1, f2, f3, f4, f5, f6, f7]) rfl ?_
          refine ⟨?_, ?_⟩
          · iterate 8 (refine grown_setNew ?_ (by first | omega | (simp; done) | (simp; omega)) _)
            exact hg8
          rw [← HR.out]
          refine ⟨rxc xk xc xn xa xr.length xrc xl xh xz xka xs.length xkc, rfl, RxV.mono (S := fun b => w.heap.size ≤ b ∧ b ≠ w.heap.size) (fun b hb _ => hb.1) ?_, ?_⟩
          · iterate 8 (refine RxV.keep (Kept.setLow _ (fun b hb => by have : w.heap.size ≤ b ∧ b ≠ w.heap.size := hb; first | omega | (simp; done) | (simp; omega))) ?_)
            exact HXV.out
          · iterate 8 (refine RdT.setHi ?_ (by first | omega | (simp; done) | (simp; omega)) _)
            exact HRD8.out
        have g41 : (c == [41]) = false := beq_eq_false_iff_ne.2 h41
        have g41' : (c != [41]) = true := by simp [bne, g41]
        have g124 : (c == [124]) = false := beq_eq_false_iff_ne.2 h124
        have g124' : (c != [124]) = true := by simp [bne, g124]
        have HF1 : Hid ((match termP (patP n) (c :: r1) d with | .error e => .error e | .ok (x, r2) => patL (fun r => termP (patP n) r d) k alts (terms ++ [x]) r2) = R) := Lib.hid (by rw [← HF.out]; simp only [patL, if_neg h41, if_neg h124]; rfl)
        clear HF h41 h124
        go_upto_region 3 with fail
        refine wp_region_ext (by kernel_rfl) (by kernel_rfl) ?_
        repeat (go_big_quiet_step ((go_at_call 22; exact ext_call (HSEE.out _))))
        refine wpQuiet_nil ?_
        rintro _ ⟨xq, rfl⟩
        clear gg gg2
        obtain ⟨w1, hw1⟩ : ∃ w1, w1 = xq.val := ⟨_, rfl⟩
        have hbq : Below wr.heap.size wr w1 := hw1 ▸ xq.ext
        rw [← hw1]
        have HRD1 := Lib.hid (HRD.out.later hbq)
        have hg1 := grown_trans hgr1 (grown_of_below hbq (some g))
        have OWT := HOT.out.later hbq
        have OWA := HOA.out.keepG hg1 (by omega)
        have hgw1 := grown_trans hga hg1
        have hz1 := hg1.size
        clear hw1 hbq HRD HOT HSEE d0 d1
        have HTM := Lib.hid (rterm_any HP.out w1 HRD1.out (by simp only [List.length_cons]; omega) hd)
        go_wp2_with (go_at_call 23; refine HTM.out.mono ?_)
        rintro e w2 hq
        clear HTM
        cases htm : termP (patP n) (c :: r1) d with
        | error q =>
          rw [htm] at hq
          obtain ⟨hq2, rfl⟩ := hq
          have hq0 : q ≠ 0 := termP_err (patP_err n) (c :: r1) d q htm
          have HR : Hid (Except.error q = R) := Lib.hid (by rw [← HF1.out]; simp only [htm])
          have hg02 := grown_trans hgw1 hq2
          have hby2 := box_grown HBY0.out hg02 (by omega)
          have hb6 : Below w2.heap.size w2 (w2.alloc (.cells #[.int .i64 0, .string ⟨#[]⟩, .bool false, .slice none 0 0, .int .i64 0, .int .i64 0, .bool false, .slice none 0 0] 26)) := (Below.refl _ _).alloc (Nat.le_refl _) _
          have hg6 := grown_trans (grown_trans hgg hg02) (grown_of_below hb6 (some g))
          have ne1 : (q != 0) = true := by simp [bne, hq0]
          obtain ⟨f0, f1, f2, f3, f4, f5, f6, f7, f8⟩ := bx_cells (c := []) ((hb6.block _ (heap_lt hby2)).trans hby2)
          clear htm hby2 hb6 hq2
          unfold rxv0
          go_wp2
          refine bodyPost_ret (v := .tuple #[.agg #[.int .i64 0, .string ⟨([]).toArray⟩, .bool false, .slice none 0 0, .int .i64 0, .int .i64 0, .bool false, .slice none 0 0], .int .i64 q]) (by simp [results, Try.results13, go_sem, f0, f1, f2, f3, f4, f5, f6, f7]) rfl ?_
          refine ⟨?_, ?_⟩
          · iterate 8 (refine grown_setNew ?_ (by first | omega | (simp; done) | (simp; omega)) _)
            exact hg6
          · rw [← HR.out]; rfl
        | ok y =>
          obtain ⟨x, r3⟩ := y
          rw [htm] at hq
          obtain ⟨hq2, cc, rfl, hxv, hrd2⟩ := hq
          obtain ⟨⟨t1, t2, t3, t4⟩, t5⟩ := term_facts (pat_facts n) (termP_up htm) hok (by have := HRD1.out.ok.2; omega) (Nat.le_refl _)
          have HF2 : Hid (patL (fun r => termP (patP n) r d) k alts (terms ++ [x]) r3 = R) := Lib.hid (by rw [← HF1.out]; simp only [htm])
          simp only [List.length_cons] at t2 t5
          have hpa : Rx.partsL alts + Rx.partsL (terms ++ [x]) + 2 * r3.length ≤ 450000 := by rw [partsL_app]; simp only [Rx.partsL]; omega
          have HSM2 := Lib.hid (smallL_app HSM.out (show Rx.smallL [x] from ⟨t1, trivial⟩))
          obtain ⟨yk, yc, yn, yr, yl, yh, yz, ys, za, zc, zka, zkc, hy, rfl⟩ := hxv.box
          subst hy
          have hgw2 := grown_trans hgw1 hq2
          have hg2 := grown_trans hg1 hq2
          have hot2 := OWT.keepG hq2 (by omega)
          have hltt := OWT.lt
          obtain ⟨va, vn, vc, hvt⟩ := hot2.form
          subst hvt
          obtain ⟨csst, hct, hvt⟩ := hot2
          have hbx : Below w2.heap.size w2 (w2.alloc (.cells (rxc yk yc yn za yr.length zc yl yh yz zka ys.length zkc).toArray 26)) := (Below.refl _ _).alloc (Nat.le_refl _) _
          have hbn := hbx.trans ((Below.refl (w2.alloc (.cells (rxc yk yc yn za yr.length zc yl yh yz zka ys.length zkc).toArray 26)).heap.size _).alloc (Nat.le_refl _) (.cells (rxc yk yc yn za yr.length zc yl yh yz zka ys.length zkc).toArray 26) |>.mono hbx.size)
          have ho6 := own_below hct hbn
          have hsl6 := Sl.lit (n := 1) (sz := 8) (heap_alloc_new (w2.alloc (.cells (rxc yk yc yn za yr.length zc yl yh yz zka ys.length zkc).toArray 26)) (.cells (rxc yk yc yn za yr.length zc yl yh yz zka ys.length zkc).toArray 26)) rfl
          rw [show (w2.alloc (.cells (rxc yk yc yn za yr.length zc yl yh yz zka ys.length zkc).toArray 26)).heap.size = w2.heap.size + 1 from by simp] at hsl6
          have hrv6 := hvt.later hbn
          have hcv6 := hxv.later hbn
          have hone := hxv.one
          have hrd6 := hrd2.later hbn
          have hz2 := hq2.size
          have hzn := hbn.size
          unfold rxc at ho6 hsl6 hrv6 hcv6 hone hbn hrd6 hzn
          have HO6 := Lib.hid ho6; have HSL6 := Lib.hid hsl6; have HRV6 := Lib.hid hrv6; have HCV6 := Lib.hid hcv6; have HONE := Lib.hid hone; have HRD6 := Lib.hid hrd6
          have hg6 := grown_trans hg2 (grown_of_below hbn (some g))
          have hlt6 := Rx.len_parts terms
          clear ho6 hsl6 hrv6 hcv6 hone hxv hct hvt hrd2 hrd6 hbx hbn htm t1 t3
          unfold rxc
          go_wp2_with (at_builtin; refine wpList_appM wa.heap.size 26 rfl _ _ 24 rfl Try.underlying24 hix rfl (by decide) rfl HO6.out rfl HSL6.out HONE.out (by omega) (by omega) (by decide) (by simp; omega) ?_)
          intro v7 w7 ho7 hq7 hb7 hmv
          have hox7 : OwnX w7 wa.heap.size v7 (terms ++ [.mk yk yc yn yr yl yh yz ys]) := by
            refine OwnX.app (ds := [_]) (m := 1) HRV6.out (.cons (HCV6.out.mono fun b hb _ => ?_) .nil) rfl ?_ hq7 hmv
            · exact ⟨by omega, fun e => by have := (hltt b e).2; omega⟩
            · simpa using ho7
          have hrd7 := HRD6.out.grownHi hq7 (fun k hk => by have := (hltt k hk).1; omega)
          have hg7 := cls_grown hg6 hb7 (Nat.le_refl _)
          clear ho7 hq7 hb7 hmv
          go_wp2
          go_roundg k
          case measure => omega
          case rel => exact ⟨_, r3, hg7, hox7, hrd7, by omega, by omega, by omega, HSM2, hpa, HF2⟩
end Go.Proofs.Ytemophfieihgaaa
set_option maxRecDepth 100000
namespace Go.Proofs.Ytemophfieihgaaa
open Go.RowKit
theorem patQ_all : ∀ n : Nat, PatQ n
  | 0 => fun _ _ _ _ _ h _ => by omega
  | n + 1 => rpattern_step (patQ_all n)
set_option maxHeartbeats 2000000 in
theorem RRead_any (s : Str) (w : World) (hs : s.length ≤ 1000000) :
    Calls Try.prog 6 #[.string ⟨(s).toArray⟩] w fun e w' => ReadPost w.heap.size w (readM s) e w' := by
  obtain ⟨R, hR⟩ : ∃ R, readM s = R := ⟨_, rfl⟩
  rw [hR]
  by_cases hl : 256 < s.length
  · unfold readM at hR
    rw [if_pos hl] at hR
    have HR := Lib.hid hR
    clear hR
    have hbl : Below w.heap.size w (w.alloc (.cells #[.int .i64 0, .string ⟨#[]⟩, .bool false, .slice none 0 0, .int .i64 0, .int .i64 0, .bool false, .slice none 0 0] 26)) := (Below.refl _ _).alloc (Nat.le_refl _) _
    have hby : (w.alloc (.cells #[.int .i64 0, .string ⟨#[]⟩, .bool false, .slice none 0 0, .int .i64 0, .int .i64 0, .bool false, .slice none 0 0] 26)).heap[w.heap.size]? = some (.cells #[.int .i64 0, .string ⟨#[]⟩, .bool false, .slice none 0 0, .int .i64 0, .int .i64 0, .bool false, .slice none 0 0] 26 (0, 0)) := heap_alloc_new w _
    obtain ⟨f0, f1, f2, f3, f4, f5, f6, f7, f8⟩ := bx_cells (c := []) hby
    clear hby
    go_enter Try.func6, Try.ntmps6
    go_wp2
    refine bodyPost_ret (v := .tuple #[.agg #[.int .i64 0, .string ⟨([]).toArray⟩, .bool false, .slice none 0 0, .int .i64 0, .int .i64 0, .bool false, .slice none 0 0], .int .i64 4]) (by simp [results, Try.results6, go_sem, f0, f1, f2, f3, f4, f5, f6, f7]) rfl ?_
    refine ⟨?_, ?_⟩
    · iterate 0 (refine Below.setCell ?_ (by first | omega | (simp; done) | (simp; omega)) _)
      exact hbl
    · rw [← HR.out]; rfl
  rw [← readP_eq s (by omega)] at hR
  obtain ⟨L, hL⟩ : ∃ L, splitM s = L := ⟨_, rfl⟩
  have hf1 : ∀ p ∈ L, p ≠ [] ∧ p.length ≤ 1000000 := hL ▸ splitM_ok hs
  have hf2 : L.length ≤ 256 := by rw [← hL]; have := splitM_len s; omega
  have HSP : Hid (∀ w, Calls Try.prog 12 #[.string ⟨(s).toArray⟩] w fun e w' => SplitRes L w e w') := Lib.hid (fun w => (RSplit_any s w hs).mono (by
    rintro e w' ⟨a, c, h1, h2, h3⟩
    rw [splitL_eq, hL] at h1 h2
    exact ⟨a, c, h1, own_slS h2, h3⟩))
  rw [hL] at hR
  unfold readP at hR
  have HF1 := Lib.hid hf1
  have HR := Lib.hid hR
  clear hf1 hL hR
  obtain ⟨w0, hw0⟩ : ∃ w0, w0 = w.alloc (.cells #[.int .i64 0, .string ⟨#[]⟩, .bool false, .slice none 0 0, .int .i64 0, .int .i64 0, .bool false, .slice none 0 0] 26) := ⟨_, rfl⟩
  obtain ⟨hb0, hz0e, hby0⟩ := alloc1 w hw0
  have HW0 := Lib.hid hw0
  have HBY0 := Lib.hid hby0
  have hz0 : w.heap.size + 1 ≤ w0.heap.size := by omega
  clear hw0 hby0 hz0e
  go_enter Try.func6, Try.ntmps6
  go_wp2_with (go_at_call 12; refine (HSP.out _).mono ?_)
  rintro e w1 hq
  obtain ⟨a, k, rfl, hsl, hb1⟩ := hq
  rw [← HW0.out] at hsl hb1
  have hz1 := hb1.size
  obtain ⟨w2, hw2⟩ : ∃ w2, w2 = w1.alloc (.cells #[.slice a L.length k, .int .i64 0] 43) := ⟨_, rfl⟩
  obtain ⟨hb2, hz2e, hbr2⟩ := alloc1 w1 hw2
  have hz2 : w1.heap.size + 1 ≤ w2.heap.size := by omega
  have HRD2 : Hid (Rd2 w2 w1.heap.size L) := Lib.hid ⟨a, k, L, 0, hbr2, (hsl.mono (S' := fun b => b < w1.heap.size) fun b _ h => h).keep (Kept.all hb2), by omega, by omega, HF1.out, rfl⟩
  have hbw2 : Below w.heap.size w w2 := (hb0.trans (hb1.mono (by omega))).trans (hb2.mono (by omega))
  have HBY2 := Lib.hid ((hb2.block _ (heap_lt ((hb1.block _ (heap_lt HBY0.out)).trans HBY0.out))).trans ((hb1.block _ (heap_lt HBY0.out)).trans HBY0.out))
  have HPAT : Hid (Calls Try.prog 13 #[.pointer (some ⟨w1.heap.size, 0, none⟩), .int .i64 0] w2 fun e w' => ResQ w1.heap.size w2.heap.size w2 (patP (L.length + 1) L 0) e w') := Lib.hid (patQ_all (L.length + 1) w1.heap.size 0 L w2 HRD2.out (by omega) (by omega))
  clear hsl hb1 hz2e hb0 HRD2
  go_wp2_with fail
  rw [← hw2]
  clear hw2
  go_wp2_with (go_at_call 13; refine HPAT.out.mono ?_)
  rintro e w5 hq
  clear HPAT
  cases hpr : patP (L.length + 1) L 0 with
  | error q =>
    rw [hpr] at hq
    obtain ⟨hq5, rfl⟩ := hq
    have hq0 : q ≠ 0 := patP_err _ _ _ q hpr
    have HR2 : Hid (Except.error q = R) := Lib.hid (by rw [← HR.out]; simp only [hpr])
    have HR := HR2
    have hby5 := box_grown HBY2.out hq5 (by omega)
    have hbl5 : Below w.heap.size w w5 := below_lo hbw2 hq5 (by omega)
    have hb6 : Below w5.heap.size w5 (w5.alloc (.cells #[.int .i64 0, .string ⟨#[]⟩, .bool false, .slice none 0 0, .int .i64 0, .int .i64 0, .bool false, .slice none 0 0] 26)) := (Below.refl _ _).alloc (Nat.le_refl _) _
    have hbl6 := hbl5.trans (hb6.mono hbl5.size)
    have HBY6 := Lib.hid ((hb6.block _ (heap_lt hby5)).trans hby5)
    have ne1 : (q == 0) = false := beq_eq_false_iff_ne.2 hq0
    have ne2 : (q != 0) = true := by simp [bne, ne1]
    clear hpr hby5 hb6 hq5
    unfold rxv0
    go_wp2
    refine wp_region_ext (by kernel_rfl) (by kernel_rfl) ?_
    repeat (go_big_quiet_step ((fail)))
    refine wpQuiet_nil ?_
    rintro _ ⟨xq, rfl⟩
    obtain ⟨f0, f1, f2, f3, f4, f5, f6, f7, f8⟩ := bx_cells (c := []) ((xq.ext.block _ (heap_lt HBY6.out)).trans HBY6.out)
    have hbl7 := hbl6.trans (xq.ext.mono hbl6.size)
    generalize xq.val = w7 at *
    go_wp2
    refine bodyPost_ret (v := .tuple #[.agg #[.int .i64 0, .string ⟨([]).toArray⟩, .bool false, .slice none 0 0, .int .i64 0, .int .i64 0, .bool false, .slice none 0 0], .int .i64 q]) (by simp [results, Try.results6, go_sem, f0, f1, f2, f3, f4, f5, f6, f7]) rfl ?_
    refine ⟨?_, ?_⟩
    · iterate 8 (refine Below.setCell ?_ (by first | omega | (simp; done) | (simp; omega)) _)
      exact hbl7
    · rw [← HR.out]; rfl
  | ok y =>
    obtain ⟨x, r3⟩ := y
    rw [hpr] at hq
    obtain ⟨hq5, cc, rfl, hxv, hrd5⟩ := hq
    have hby5 := box_grown HBY2.out hq5 (by omega)
    have hbl5 : Below w.heap.size w w5 := below_lo hbw2 hq5 (by omega)
    have hq5z := hq5.size
    obtain ⟨k, c, ng, rs, lo, hi, lz, ks, ra, rc, ka, kc, hx, rfl⟩ := hxv.box
    obtain ⟨w6, hw6⟩ : ∃ w6, w6 = w5.alloc (.cells (rxc k c ng ra rs.length rc lo hi lz ka ks.length kc).toArray 26) := ⟨_, rfl⟩
    obtain ⟨hb6, hz6e, hbx6⟩ := alloc1 w5 hw6
    have hbl6 := hbl5.trans (hb6.mono hbl5.size)
    have HRD6 := Lib.hid (hrd5.later hb6)
    have HXV := Lib.hid ((hxv.mono (S' := fun b => w.heap.size ≤ b ∧ b ≠ w.heap.size) fun b hb hlt => by constructor <;> omega).later hb6)
    have HBY6 := Lib.hid ((hb6.block _ (heap_lt hby5)).trans hby5)
    have HBX6 := Lib.hid hbx6
    clear hxv hrd5 hby5 hb6 hbx6
    unfold rxc at HXV HBX6 hw6 ⊢
    obtain ⟨la, lk, ll, li, c0, c1, _, _, hll, hli, _, hld, _⟩ := HRD6.out.cells
    have d0 : ∀ x : ExtOf w6, x.val.cell? ⟨w1.heap.size, 0, none⟩ = some (.slice la ll.length lk) := ExtOf.cell c0
    have d1 : ∀ x : ExtOf w6, x.val.cell? ⟨w1.heap.size, 1, none⟩ = some (.int .i64 li) := ExtOf.cell c1
    clear c0 c1
    cases r3 with
    | nil =>
      have HR2 : Hid (Except.ok x = R) := Lib.hid (by rw [← HR.out]; simp only [hpr])
      have HR := HR2
      rw [hx] at HR HXV
      have hli2 := ldrop_none hld
      have gg : decide (li < ll.length) = false := by simp; omega
      have gg2 : decide ((li : Int) < (ll.length : Int)) = false := by simp; omega
      clear hpr hx HR2 hld
      go_upto_region 5 with fail
      rw [← hw6]
      clear hw6
      refine wp_region_ext (by kernel_rfl) (by kernel_rfl) ?_
      repeat (go_big_quiet_step ((fail)))
      refine wpQuiet_nil ?_
      rintro _ ⟨xq, rfl⟩
      have hbl7 := hbl6.trans (xq.ext.mono hbl6.size)
      have HXV7 := Lib.hid (HXV.out.later xq.ext)
      obtain ⟨f0, f1, f2, f3, f4, f5, f6, f7, f8⟩ := bx_cells (c := []) ((xq.ext.block _ (heap_lt HBY6.out)).trans HBY6.out)
      obtain ⟨e0, e1, e2, e3, e4, e5, e6, e7, e8⟩ := bx_cells ((xq.ext.block _ (heap_lt HBX6.out)).trans HBX6.out)
      clear d0 d1 gg gg2
      generalize xq.val = w7 at *
      go_wp2
      refine bodyPost_ret (v := .tuple #[.agg #[.int .i64 k, .string ⟨(c).toArray⟩, .bool ng, .slice ra rs.length rc, .int .i64 lo, .int .i64 hi, .bool lz, .slice ka ks.length kc], .int .i64 0]) (by simp [results, Try.results6, go_sem, f0, f1, f2, f3, f4, f5, f6, f7]) rfl ?_
      refine ⟨?_, ?_⟩
      · iterate 8 (refine Below.setCell ?_ (by first | omega | (simp; done) | (simp; omega)) _)
        exact hbl7
      rw [← HR.out]
      refine ⟨rxc k c ng ra rs.length rc lo hi lz ka ks.length kc, rfl, RxV.mono (S := fun b => w.heap.size ≤ b ∧ b ≠ w.heap.size) (fun b hb _ => hb.1) ?_⟩
      iterate 8 (refine RxV.keep (Kept.setLow _ (fun b hb => by have : w.heap.size ≤ b ∧ b ≠ w.heap.size := hb; first | omega | (simp; done) | (simp; omega))) ?_)
      exact HXV7.out
    | cons p r4 =>
      have HR2 : Hid (Except.error 10 = R) := Lib.hid (by rw [← HR.out]; simp only [hpr])
      have HR := HR2
      obtain ⟨hli2, _, _⟩ := ldrop_cons hld
      have gg : decide (li < ll.length) = true := by simp; omega
      have gg2 : decide ((li : Int) < (ll.length : Int)) = true := by simp; omega
      clear hpr hx HR2 hld
      go_upto_region 5 with fail
      rw [← hw6]
      clear hw6
      refine wp_region_ext (by kernel_rfl) (by kernel_rfl) ?_
      repeat (go_big_quiet_step ((fail)))
      refine wpQuiet_nil ?_
      rintro _ ⟨xq, rfl⟩
      have hbl7 := hbl6.trans (xq.ext.mono hbl6.size)
      obtain ⟨f0, f1, f2, f3, f4, f5, f6, f7, f8⟩ := bx_cells (c := []) ((xq.ext.block _ (heap_lt HBY6.out)).trans HBY6.out)
      clear d0 d1 gg gg2
      generalize xq.val = w7 at *
      go_wp2
      refine bodyPost_ret (v := .tuple #[.agg #[.int .i64 0, .string ⟨([]).toArray⟩, .bool false, .slice none 0 0, .int .i64 0, .int .i64 0, .bool false, .slice none 0 0], .int .i64 10]) (by simp [results, Try.results6, go_sem, f0, f1, f2, f3, f4, f5, f6, f7]) rfl ?_
      refine ⟨?_, ?_⟩
      · iterate 8 (refine Below.setCell ?_ (by first | omega | (simp; done) | (simp; omega)) _)
        exact hbl7
      · rw [← HR.out]; rfl
end Go.Proofs.Ytemophfieihgaaa
set_option maxRecDepth 100000
namespace Go.Proofs.Ytemophfieihgaaa
open Go.RowKit
theorem RRead_ok {s : Str} {x : Rx} (w : World) (hs : s.length ≤ 1000000) (h : readM s = .ok x) :
    Calls Try.prog 6 #[.string ⟨(s).toArray⟩] w fun e w' => ReadPost w.heap.size w (.ok x) e w' := h ▸ RRead_any s w hs
theorem RRead_no {s : Str} {q : Int} (w : World) (hs : s.length ≤ 1000000) (h : readM s = .error q) :
    Calls Try.prog 6 #[.string ⟨(s).toArray⟩] w fun e w' => e = .returned (.tuple #[rxv0, .int .i64 q]) ∧ Below w.heap.size w w' := by
  refine (RRead_any s w hs).mono ?_
  rintro e w' ⟨h1, h2⟩
  rw [h] at h2
  exact ⟨h2, h1⟩
theorem leafT_v {W : World} {k : Int} {c : Str} {ng : Bool} {lo hi : Int} {lz : Bool} : RxV W Any [.int .i64 k, .string ⟨(c).toArray⟩, .bool ng, .slice none 0 0, .int .i64 lo, .int .i64 hi, .bool lz, .slice none 0 0] (.mk k c ng [] lo hi lz []) :=
  RxV.close (rs := []) (ks := []) (SlS.none_ _ _ _ _) ⟨[], SlS.none_ _ _ _ _, .nil⟩
theorem smallT_zero : rx0.small := by unfold rx0; simp [Rx.small, Rx.small1, Rx.smallL]
theorem readT_small {s : Str} {x : Rx} (h : readM s = .ok x) : x.small ∧ x.parts ≤ 1000 := by
  obtain ⟨a1, a2, a3⟩ := readM_ok.1 h
  have := splitM_len s
  obtain ⟨f1, f2, f3, f4⟩ := pat_facts _ _ _ _ _ (by omega) a3 (splitM_ok (by omega))
  exact ⟨f1, by simp at f2; omega⟩
set_option maxHeartbeats 4000000 in
theorem ReadTells_walk (s : Str) (w : World) (hs : s.length ≤ maxLen) :
    Calls Try.prog 3 #[.string ⟨(s).toArray⟩] w fun e w' => e = .returned (.bool true) ∧ Below w.heap.size w w' := by
  unfold maxLen at hs
  by_cases h1 : s.length ≤ 300
  · have dg : decide ((300 : Int) < (s.length : Int)) = false := decide_eq_false (by omega)
    cases hx : readM s with
    | error q =>
      have HX := Lib.hid (fun w => Read_no w (by omega) hx)
      have HY := Lib.hid (fun w => RRead_no w (by omega) hx)
      have eq1 : (q == q) = true := by simp
      clear hx
      go_enter Try.func3, Try.ntmps3
      go_wp2_with (go_at_call 5; refine (HX.out _).mono ?_)
      rintro e w1 ⟨rfl, hb1⟩
      unfold rxv0
      obtain ⟨wq, hwq⟩ : ∃ wq, wq = w1.alloc (.cells #[.int .i64 0, .string ⟨#[]⟩, .bool false, .slice none 0 0, .int .i64 0, .int .i64 0, .bool false, .slice none 0 0] 26) := ⟨_, rfl⟩
      obtain ⟨hB1, hz1e, q1⟩ := alloc1 w1 hwq
      have HQ1 := Lib.hid q1
      clear q1
      go_wp2_with fail
      rw [← hwq]
      clear hwq
      go_wp2_with (go_at_call 6; refine (HY.out _).mono ?_)
      rintro e w2 ⟨rfl, hb2⟩
      unfold rxv0
      obtain ⟨wr, hwr⟩ : ∃ wr, wr = w2.alloc (.cells #[.int .i64 0, .string ⟨#[]⟩, .bool false, .slice none 0 0, .int .i64 0, .int .i64 0, .bool false, .slice none 0 0] 26) := ⟨_, rfl⟩
      obtain ⟨hB2, hz2e, q2⟩ := alloc1 w2 hwr
      obtain ⟨x0, x1, x2, x3, x4, x5, x6, x7, x8⟩ := bx_cells (c := []) q2
      have q3 := (hB2.block _ (heap_lt ((hb2.block _ (heap_lt HQ1.out)).trans HQ1.out))).trans ((hb2.block _ (heap_lt HQ1.out)).trans HQ1.out)
      obtain ⟨y0, y1, y2, y3, y4, y5, y6, y7, y8⟩ := bx_cells (c := []) q3
      have hbx := bel2 (bel2 (bel2 hb1 hB1) hb2) hB2
      clear q2 q3 hB1 hB2 hb1 hb2
      go_upto_region 5 with fail
      rw [← hwr]
      clear hwr
      go_wp2_with (go_at_call 7; refine (Same_eq _ smallT_zero leafT_v leafT_v).mono ?_)
      first | rintro e w3 rfl hb3 | rintro e w3 ⟨rfl, hb3⟩
      have hbw := bel2 hbx hb3
      go_wp2_with (go_at_call 4; refine (awake_any _).mono ?_)
      first | rintro e w9 rfl hb9 | rintro e w9 ⟨rfl, hb9⟩
      go_wp2
      go_ret
      exact ⟨rfl, bel2 hbw hb9⟩
    | ok x =>
      obtain ⟨sx, px⟩ := readT_small hx
      have HX := Lib.hid (fun w => Read_ok w (by omega) hx)
      have HY := Lib.hid (fun w => RRead_ok w (by omega) hx)
      have HSX := Lib.hid sx
      clear hx sx
      go_enter Try.func3, Try.ntmps3
      go_wp2_with (go_at_call 5; refine (HX.out _).mono ?_)
      rintro e w1 ⟨hb1, cc1, rfl, hv1⟩
      obtain ⟨k1, c1, n1, r1, l1, h1, z1, s1, a1, d1, b1, g1, hx1, rfl⟩ := hv1.box
      have HV1 := Lib.hid hv1
      have HX1 := Lib.hid hx1
      clear hv1 hx1
      unfold rxc at HV1 ⊢
      obtain ⟨wq, hwq⟩ : ∃ wq, wq = w1.alloc (.cells #[.int .i64 k1, .string ⟨(c1).toArray⟩, .bool n1, .slice a1 r1.length d1, .int .i64 l1, .int .i64 h1, .bool z1, .slice b1 s1.length g1] 26) := ⟨_, rfl⟩
      obtain ⟨hB1, hz1e, q1⟩ := alloc1 w1 hwq
      have HQ1 := Lib.hid q1
      clear q1
      go_wp2_with fail
      rw [← hwq]
      clear hwq
      go_wp2_with (go_at_call 6; refine (HY.out _).mono ?_)
      rintro e w2 ⟨hb2, cc2, rfl, hv2⟩
      obtain ⟨k2, c2, n2, r2, l2, h2, z2, s2, a2, d2, b2, g2, hx2, rfl⟩ := hv2.box
      have HV2 := Lib.hid hv2
      clear hv2 hx2
      unfold rxc at HV2 ⊢
      obtain ⟨wr, hwr⟩ : ∃ wr, wr = w2.alloc (.cells #[.int .i64 k2, .string ⟨(c2).toArray⟩, .bool n2, .slice a2 r2.length d2, .int .i64 l2, .int .i64 h2, .bool z2, .slice b2 s2.length g2] 26) := ⟨_, rfl⟩
      obtain ⟨hB2, hz2e, q2⟩ := alloc1 w2 hwr
      obtain ⟨x0, x1, x2, x3, x4, x5, x6, x7, x8⟩ := bx_cells q2
      have q3 := (hB2.block _ (heap_lt ((hb2.block _ (heap_lt HQ1.out)).trans HQ1.out))).trans ((hb2.block _ (heap_lt HQ1.out)).trans HQ1.out)
      obtain ⟨y0, y1, y2, y3, y4, y5, y6, y7, y8⟩ := bx_cells q3
      have hbx := bel2 (bel2 (bel2 hb1 hB1) hb2) hB2
      have HV1' := Lib.hid (((HV1.out.later hB1).later hb2).later hB2)
      have HV2' := Lib.hid (HV2.out.later hB2)
      clear q2 q3 hB1 hB2 hb1 hb2 HV1 HV2
      go_upto_region 5 with fail
      rw [← hwr]
      clear hwr
      go_wp2_with (go_at_call 7; refine (Same_eq _ HSX.out HV1'.out HV2'.out).mono ?_)
      first | rintro e w3 rfl hb3 | rintro e w3 ⟨rfl, hb3⟩
      have hbw := bel2 hbx hb3
      go_wp2_with (go_at_call 4; refine (awake_any _).mono ?_)
      first | rintro e w9 rfl hb9 | rintro e w9 ⟨rfl, hb9⟩
      go_wp2
      go_ret
      exact ⟨rfl, bel2 hbw hb9⟩
  · have dg : decide ((300 : Int) < (s.length : Int)) = true := decide_eq_true (by omega)
    go_enter Try.func3, Try.ntmps3
    go_wp2_with (go_at_call 4; refine (awake_any _).mono ?_)
    first | rintro e w9 rfl hb9 | rintro e w9 ⟨rfl, hb9⟩
    go_wp2
    go_ret
    exact ⟨rfl, hb9⟩
end Go.Proofs.Ytemophfieihgaaa
