/- walk of rxshow.show: groups and repeats; all; rxshow.Show -/
import Derived.Test.YtpggnfpjjppbmaaDoorS4
set_option maxRecDepth 100000
namespace Go.Proofs.YtpggnfpjjppbmaaDoor
open Go.RowKit
set_option maxHeartbeats 4000000 in
theorem show_group (B g : Nat) (acc : Str) (K : Int) (hK : K = 5 ∨ K = 6) (c : Str) (ng : Bool) (ra : Option Addr) (rs : List (Str × Str)) (rn rc : Nat) (lo hi : Int) (lz : Bool) (ka : Option Addr) (y : Rx) (kc : Nat) (w : World)
    (ih : ShowC B g y) (hgT : 1 < B)
    (hbl : Bld B g acc w) (hB : B ≤ w.heap.size) (ht : Tab w) (hx : RxSl w (· < B) ka 1 [y])
    (hlen : (acc ++ (Rx.mk K c ng rs lo hi lz [y]).tell).length ≤ 10000000) :
    Calls Tryd.prog 22 #[.pointer (some ⟨g, 0, none⟩), .agg #[.int .i64 K, .string ⟨(c).toArray⟩, .bool ng, .slice ra rn rc, .int .i64 lo, .int .i64 hi, .bool lz, .slice ka 1 kc]] w fun e w' => ShwPost B g (acc ++ (Rx.mk K c ng rs lo hi lz [y]).tell) w e w' := by
  have IH := Lib.hid ih
  clear ih
  rcases hK with rfl | rfl
  · have HO : Hid (acc ++ (Rx.mk 5 c ng rs lo hi lz [y]).tell = acc ++ [40] ++ y.tell ++ [41]) := Lib.hid (by simp [Rx.tell, Rx.tellL])
    rw [HO.out] at hlen ⊢
    simp only [List.length_append, List.length_cons, List.length_nil] at hlen
    obtain ⟨yk, yc, yn, yr, yl, yh, yz, ys⟩ := y
    have hgl := hbl.lt
    have hgB := hbl.le
    obtain ⟨w0, hw0⟩ : ∃ w0, w0 = w.alloc (.cells #[.int .i64 5, .string ⟨(c).toArray⟩, .bool ng, .slice ra rn rc, .int .i64 lo, .int .i64 hi, .bool lz, .slice ka 1 kc] 25) := ⟨_, rfl⟩
    have hb0 : Below w.heap.size w w0 := by rw [hw0]; exact (Below.refl _ _).alloc (Nat.le_refl _) _
    have hbx0 : w0.heap[w.heap.size]? = some (.cells #[.int .i64 5, .string ⟨(c).toArray⟩, .bool ng, .slice ra rn rc, .int .i64 lo, .int .i64 hi, .bool lz, .slice ka 1 kc] 25 (0, 0)) := by rw [hw0]; exact heap_alloc_new w _
    have HX := Lib.hid (hx.keep (Kept.all hb0))
    have hbl0 : Bld B g acc w0 := by rw [hw0]; exact hbl.alloc _
    have htb := ht.keep hb0
    have hB0 : B ≤ w0.heap.size := Nat.le_trans hB hb0.size
    have hf0 : Fr B [g] [5] w w0 := Fr.of_below hb0 (Nat.le_refl _)
    have hBX0 := Lib.hid hbx0
    have HTB := Lib.hid htb
    have HW0 := Lib.hid hw0
    clear hx ht htb hbl0 hw0
    obtain ⟨b, o, ya, yrc, yka, ykc, rfl, hS, hbB, _, _, hyv, c0, c1, c2, c3, c4, c5, c6, c7⟩ := HX.out.cells (m := 0) rfl
    have HYV := Lib.hid hyv
    unfold rxc at HYV
    simp only [Nat.zero_mul, Nat.add_zero] at c0 c1 c2 c3 c4 c5 c6 c7
    have C := Lib.hid (And.intro c0 (And.intro c1 (And.intro c2 (And.intro c3 (And.intro c4 (And.intro c5 (And.intro c6 c7)))))))
    clear c0 c1 c2 c3 c4 c5 c6 c7 hyv
    go_enter Tryd.func22, Tryd.ntmps22
    go_wp2_with (go_at_call 36; refine (WriteByte_any B _ (acc) 40 _ (hbl.alloc _) (by first | omega | (simp only [List.length_append, List.length_cons, List.length_nil]; omega)) (by first | omega | (simp; omega)) (by decide) (by decide)).mono ?_)
    first | rintro e w1 rfl hbl1 hfr1 | rintro e w1 ⟨rfl, hbl1, hfr1⟩
    rw [← HW0.out] at hfr1
    have hbx1 := hfr1.held hbx0 (by decide) (Nat.ne_of_gt hgl)
    have z0 : w1.cell? ⟨w.heap.size, 0, none⟩ = some (.int .i64 5) := (by rw [Lib.cell_of_heap hbx1]; rfl); have z7 : w1.cell? ⟨w.heap.size, 7, none⟩ = some (.slice (some ⟨b, o, none⟩) 1 kc) := (by rw [Lib.cell_of_heap hbx1]; rfl)
    have hB1 : B ≤ w1.heap.size := Nat.le_trans hB0 hfr1.size
    have hbw1 := hfr1.below hB0 (by simpa using hgB)
    have kb : b < B := hS
    have kc0 : ∀ j u, w0.cell? ⟨b, o + j, none⟩ = some u → w1.cell? ⟨b, o + j, none⟩ = some u := fun j u h => ((hbw1).cell (p := ⟨b, o + j, none⟩) kb).trans h
    have d0 : w1.cell? ⟨b, o, none⟩ = some (.int .i64 yk) := kc0 0 _ C.out.1
    have d1 := kc0 1 _ C.out.2.1
    have d2 := kc0 2 _ C.out.2.2.1
    have d3 := kc0 3 _ C.out.2.2.2.1
    have d4 := kc0 4 _ C.out.2.2.2.2.1
    have d5 := kc0 5 _ C.out.2.2.2.2.2.1
    have d6 := kc0 6 _ C.out.2.2.2.2.2.2.1
    have d7 := kc0 7 _ C.out.2.2.2.2.2.2.2
    clear kc0
    have HYV1 := Lib.hid (HYV.out.keep (Kept.fr hfr1 hB0 hgB))
    have HTB1 := Lib.hid (HTB.out.keepB hgT hbw1)
    have hfx := hf0.trans hfr1
    clear hbx1 hfr1 hbx0
    go_wp2_with (go_at_call 22; refine (IH.out.at_ HYV1.out hbl1 hB1 HTB1.out rfl (by simp only [List.length_append, List.length_cons, List.length_nil]; omega)).mono ?_)
    first | rintro e w2 rfl hbl2 hfr2 | rintro e w2 ⟨rfl, hbl2, hfr2⟩
    have hB2 : B ≤ w2.heap.size := Nat.le_trans hB1 hfr2.size
    go_wp2_with (go_at_call 36; refine (WriteByte_any B _ (acc ++ [40] ++ Rx.tell (.mk yk yc yn yr yl yh yz ys)) 41 _ (hbl2) (by first | omega | (simp only [List.length_append, List.length_cons, List.length_nil]; omega)) (by first | omega | (simp; omega)) (by decide) (by decide)).mono ?_)
    first | rintro e w3 rfl hbl3 hfr3 | rintro e w3 ⟨rfl, hbl3, hfr3⟩
    go_wp2_with fail
    go_end0
    exact ⟨rfl, hbl3, (hfx.trans hfr2).trans hfr3⟩
  · have HO : Hid (acc ++ (Rx.mk 6 c ng rs lo hi lz [y]).tell = acc ++ [40] ++ [63, 58] ++ y.tell ++ [41]) := Lib.hid (by simp [Rx.tell, Rx.tellL])
    rw [HO.out] at hlen ⊢
    simp only [List.length_append, List.length_cons, List.length_nil] at hlen
    obtain ⟨yk, yc, yn, yr, yl, yh, yz, ys⟩ := y
    have hgl := hbl.lt
    have hgB := hbl.le
    obtain ⟨w0, hw0⟩ : ∃ w0, w0 = w.alloc (.cells #[.int .i64 6, .string ⟨(c).toArray⟩, .bool ng, .slice ra rn rc, .int .i64 lo, .int .i64 hi, .bool lz, .slice ka 1 kc] 25) := ⟨_, rfl⟩
    have hb0 : Below w.heap.size w w0 := by rw [hw0]; exact (Below.refl _ _).alloc (Nat.le_refl _) _
    have hbx0 : w0.heap[w.heap.size]? = some (.cells #[.int .i64 6, .string ⟨(c).toArray⟩, .bool ng, .slice ra rn rc, .int .i64 lo, .int .i64 hi, .bool lz, .slice ka 1 kc] 25 (0, 0)) := by rw [hw0]; exact heap_alloc_new w _
    have HX := Lib.hid (hx.keep (Kept.all hb0))
    have hbl0 : Bld B g acc w0 := by rw [hw0]; exact hbl.alloc _
    have htb := ht.keep hb0
    have hB0 : B ≤ w0.heap.size := Nat.le_trans hB hb0.size
    have hf0 : Fr B [g] [5] w w0 := Fr.of_below hb0 (Nat.le_refl _)
    have hBX0 := Lib.hid hbx0
    have HTB := Lib.hid htb
    have HW0 := Lib.hid hw0
    clear hx ht htb hbl0 hw0
    obtain ⟨b, o, ya, yrc, yka, ykc, rfl, hS, hbB, _, _, hyv, c0, c1, c2, c3, c4, c5, c6, c7⟩ := HX.out.cells (m := 0) rfl
    have HYV := Lib.hid hyv
    unfold rxc at HYV
    simp only [Nat.zero_mul, Nat.add_zero] at c0 c1 c2 c3 c4 c5 c6 c7
    have C := Lib.hid (And.intro c0 (And.intro c1 (And.intro c2 (And.intro c3 (And.intro c4 (And.intro c5 (And.intro c6 c7)))))))
    clear c0 c1 c2 c3 c4 c5 c6 c7 hyv
    go_enter Tryd.func22, Tryd.ntmps22
    go_wp2_with (go_at_call 36; refine (WriteByte_any B _ (acc) 40 _ (hbl.alloc _) (by first | omega | (simp only [List.length_append, List.length_cons, List.length_nil]; omega)) (by first | omega | (simp; omega)) (by decide) (by decide)).mono ?_)
    first | rintro e w1 rfl hbl1 hfr1 | rintro e w1 ⟨rfl, hbl1, hfr1⟩
    rw [← HW0.out] at hfr1
    have hbx1 := hfr1.held hbx0 (by decide) (Nat.ne_of_gt hgl)
    have z0 : w1.cell? ⟨w.heap.size, 0, none⟩ = some (.int .i64 6) := (by rw [Lib.cell_of_heap hbx1]; rfl)
    have hB1 : B ≤ w1.heap.size := Nat.le_trans hB0 hfr1.size
    have hfx := hf0.trans hfr1
    have HBX1 := Lib.hid hbx1
    have HFA := Lib.hid hfr1
    clear hbx1 hfr1 hbx0
    go_wp2_with (go_at_call 37; refine (WriteString_any B _ (acc ++ [40]) _ _ (hbl1) (by first | omega | (simp only [List.length_append, List.length_cons, List.length_nil]; omega)) (by first | omega | (simp only [List.length_append, List.length_cons, List.length_nil]; omega)) (by first | omega | (simp; omega))).mono ?_)
    first | rintro e w1b rfl hbl1b hfr1b | rintro e w1b ⟨rfl, hbl1b, hfr1b⟩
    have hbx1b := hfr1b.held HBX1.out (by decide) (Nat.ne_of_gt hgl)
    have z7 : w1b.cell? ⟨w.heap.size, 7, none⟩ = some (.slice (some ⟨b, o, none⟩) 1 kc) := (by rw [Lib.cell_of_heap hbx1b]; rfl)
    have hB1b : B ≤ w1b.heap.size := Nat.le_trans hB1 hfr1b.size
    have hfrA := HFA.out.trans hfr1b
    have hbw1 := hfrA.below hB0 (by simpa using hgB)
    have kb : b < B := hS
    have kc0 : ∀ j u, w0.cell? ⟨b, o + j, none⟩ = some u → w1b.cell? ⟨b, o + j, none⟩ = some u := fun j u h => ((hbw1).cell (p := ⟨b, o + j, none⟩) kb).trans h
    have d0 : w1b.cell? ⟨b, o, none⟩ = some (.int .i64 yk) := kc0 0 _ C.out.1
    have d1 := kc0 1 _ C.out.2.1
    have d2 := kc0 2 _ C.out.2.2.1
    have d3 := kc0 3 _ C.out.2.2.2.1
    have d4 := kc0 4 _ C.out.2.2.2.2.1
    have d5 := kc0 5 _ C.out.2.2.2.2.2.1
    have d6 := kc0 6 _ C.out.2.2.2.2.2.2.1
    have d7 := kc0 7 _ C.out.2.2.2.2.2.2.2
    clear kc0
    have HYV1 := Lib.hid (HYV.out.keep (Kept.fr hfrA hB0 hgB))
    have HTB1 := Lib.hid (HTB.out.keepB hgT hbw1)
    have hfxb := hfx.trans hfr1b
    clear hbx1b hfr1b hfrA
    go_wp2_with (go_at_call 22; refine (IH.out.at_ HYV1.out hbl1b hB1b HTB1.out rfl (by simp only [List.length_append, List.length_cons, List.length_nil]; omega)).mono ?_)
    first | rintro e w2 rfl hbl2 hfr2 | rintro e w2 ⟨rfl, hbl2, hfr2⟩
    have hB2 : B ≤ w2.heap.size := Nat.le_trans hB1b hfr2.size
    go_wp2_with (go_at_call 36; refine (WriteByte_any B _ (acc ++ [40] ++ [63, 58] ++ Rx.tell (.mk yk yc yn yr yl yh yz ys)) 41 _ (hbl2) (by first | omega | (simp only [List.length_append, List.length_cons, List.length_nil]; omega)) (by first | omega | (simp; omega)) (by decide) (by decide)).mono ?_)
    first | rintro e w3 rfl hbl3 hfr3 | rintro e w3 ⟨rfl, hbl3, hfr3⟩
    go_wp2_with fail
    go_end0
    exact ⟨rfl, hbl3, (hfxb.trans hfr2).trans hfr3⟩
theorem often_eq {lo hi : Int} (w : World) (h0 : 0 ≤ lo) (h1 : lo ≤ 255) (h2 : hi = -1 ∨ lo ≤ hi ∧ hi ≤ 255) (ht : Tab w) :
    Calls Tryd.prog 40 #[.int .i64 lo, .int .i64 hi] w fun e w' => e = .returned (.string ⟨(oftS lo hi).toArray⟩) ∧ Below w.heap.size w w' := often_any lo hi w h0 h1 h2 ht
set_option maxHeartbeats 4000000 in
theorem show_rep (B g : Nat) (acc : Str) (c : Str) (ng : Bool) (ra : Option Addr) (rs : List (Str × Str)) (rn rc : Nat) (lo hi : Int) (lz : Bool) (ka : Option Addr) (y : Rx) (kc : Nat) (w : World)
    (ih : ShowC B g y) (hgT : 1 < B) (h0 : 0 ≤ lo) (h1 : lo ≤ 255) (h2 : hi = -1 ∨ lo ≤ hi ∧ hi ≤ 255)
    (hbl : Bld B g acc w) (hB : B ≤ w.heap.size) (ht : Tab w) (hx : RxSl w (· < B) ka 1 [y])
    (hlen : (acc ++ (Rx.mk 7 c ng rs lo hi lz [y]).tell).length ≤ 10000000) :
    Calls Tryd.prog 22 #[.pointer (some ⟨g, 0, none⟩), .agg #[.int .i64 7, .string ⟨(c).toArray⟩, .bool ng, .slice ra rn rc, .int .i64 lo, .int .i64 hi, .bool lz, .slice ka 1 kc]] w fun e w' => ShwPost B g (acc ++ (Rx.mk 7 c ng rs lo hi lz [y]).tell) w e w' := by
  have IH := Lib.hid ih
  have H2 := Lib.hid h2
  have HO : Hid (acc ++ (Rx.mk 7 c ng rs lo hi lz [y]).tell = acc ++ y.tell ++ oftS lo hi ++ (if lz = true then [63] else [])) := Lib.hid (by simp [Rx.tell, Rx.tellL])
  rw [HO.out] at hlen ⊢
  have hl3 : acc.length + y.tell.length + (oftS lo hi).length ≤ 10000000 := by simp only [List.length_append] at hlen; omega
  clear ih h2 hlen
  obtain ⟨yk, yc, yn, yr, yl, yh, yz, ys⟩ := y
  have hgl := hbl.lt
  have hgB := hbl.le
  obtain ⟨w0, hw0⟩ : ∃ w0, w0 = w.alloc (.cells #[.int .i64 7, .string ⟨(c).toArray⟩, .bool ng, .slice ra rn rc, .int .i64 lo, .int .i64 hi, .bool lz, .slice ka 1 kc] 25) := ⟨_, rfl⟩
  have hb0 : Below w.heap.size w w0 := by rw [hw0]; exact (Below.refl _ _).alloc (Nat.le_refl _) _
  have hbx0 : w0.heap[w.heap.size]? = some (.cells #[.int .i64 7, .string ⟨(c).toArray⟩, .bool ng, .slice ra rn rc, .int .i64 lo, .int .i64 hi, .bool lz, .slice ka 1 kc] 25 (0, 0)) := by rw [hw0]; exact heap_alloc_new w _
  obtain ⟨b, o, ya, yrc, yka, ykc, rfl, hS, hbB, _, _, hyv, c0, c1, c2, c3, c4, c5, c6, c7⟩ := hx.cells (m := 0) rfl
  simp only [Nat.zero_mul, Nat.add_zero] at c0 c1 c2 c3 c4 c5 c6 c7
  have HYV := Lib.hid (hyv.later hb0)
  unfold rxc at HYV
  have HTB := Lib.hid (ht.keep hb0)
  have hB0 : B ≤ w0.heap.size := Nat.le_trans hB hb0.size
  have hf0 : Fr B [g] [5] w w0 := Fr.of_below hb0 (Nat.le_refl _)
  have HBX0 := Lib.hid hbx0
  have HBL0 : Hid (Bld B g acc w0) := Lib.hid (by rw [hw0]; exact hbl.alloc _)
  rw [hw0] at HYV HTB HBL0
  have HW0 := Lib.hid hw0
  clear hx ht hw0 hyv hbx0
  go_enter Tryd.func22, Tryd.ntmps22
  go_wp2_with (go_at_call 22; refine (IH.out.at_ HYV.out HBL0.out (by simp; omega) HTB.out rfl (by simp only [List.length_append]; omega)).mono ?_)
  first | rintro e w1 rfl hbl1 hfr1 | rintro e w1 ⟨rfl, hbl1, hfr1⟩
  rw [← HW0.out] at hfr1
  have hbx1 := hfr1.held HBX0.out (by decide) (Nat.ne_of_gt hgl)
  have z4 : w1.cell? ⟨w.heap.size, 4, none⟩ = some (.int .i64 lo) := (by rw [Lib.cell_of_heap hbx1]; rfl); have z5 : w1.cell? ⟨w.heap.size, 5, none⟩ = some (.int .i64 hi) := (by rw [Lib.cell_of_heap hbx1]; rfl)
  have hB1 : B ≤ w1.heap.size := Nat.le_trans hB0 hfr1.size
  have hbw1 := hfr1.below hB0 (by simpa using hgB)
  have HTB1 := Lib.hid ((show Tab w0 by rw [HW0.out]; exact HTB.out).keepB hgT hbw1)
  have hfx := hf0.trans hfr1
  have HBX1 := Lib.hid hbx1
  have hgl1 := hbl1.lt
  clear hbx1 hfr1
  go_wp2_with (go_at_call 40; refine (often_eq _ h0 h1 H2.out HTB1.out).mono ?_)
  first | rintro e w2 rfl hb2 | rintro e w2 ⟨rfl, hb2⟩
  have hbl2 := hbl1.below hb2
  have hB2 : B ≤ w2.heap.size := Nat.le_trans hB1 hb2.size
  have hfx2 : Fr B [g] [5] w w2 := hfx.trans (Fr.of_below hb2 (Nat.le_refl _))
  have HBX2 : Hid (w2.heap[w.heap.size]? = some (.cells #[.int .i64 7, .string ⟨(c).toArray⟩, .bool ng, .slice ra rn rc, .int .i64 lo, .int .i64 hi, .bool lz, .slice (some ⟨b, o, none⟩) 1 kc] 25 (0, 0))) := Lib.hid ((hb2.block _ (heap_lt HBX1.out)).trans HBX1.out)
  clear hb2
  go_wp2_with (go_at_call 37; refine (WriteString_any B _ (acc ++ Rx.tell (.mk yk yc yn yr yl yh yz ys)) _ _ (hbl2) (by first | omega | (simp only [List.length_append, List.length_cons, List.length_nil]; omega)) (by first | omega | (simp only [List.length_append, List.length_cons, List.length_nil]; omega)) (by first | omega | (simp; omega))).mono ?_)
  first | rintro e w3 rfl hbl3 hfr3 | rintro e w3 ⟨rfl, hbl3, hfr3⟩
  have hbx3 := hfr3.held HBX2.out (by decide) (Nat.ne_of_gt hgl)
  have z6 : w3.cell? ⟨w.heap.size, 6, none⟩ = some (.bool lz) := (by rw [Lib.cell_of_heap hbx3]; rfl)
  have hB3 : B ≤ w3.heap.size := Nat.le_trans hB2 hfr3.size
  have hfx3 := hfx2.trans hfr3
  clear hbx3 hfr3
  cases lz with
  | false =>
    go_wp2
    go_end0
    exact ⟨rfl, by simpa using hbl3, hfx3⟩
  | true =>
    go_wp2_with (go_at_call 36; refine (WriteByte_any B _ (acc ++ Rx.tell (.mk yk yc yn yr yl yh yz ys) ++ oftS lo hi) 63 _ (hbl3) (by first | omega | (simp only [List.length_append, List.length_cons, List.length_nil]; omega)) (by first | omega | (simp; omega)) (by decide) (by decide)).mono ?_)
    first | rintro e w4 rfl hbl4 hfr4 | rintro e w4 ⟨rfl, hbl4, hfr4⟩
    go_wp2_with fail
    go_end0
    exact ⟨rfl, by simpa using hbl4, hfx3.trans hfr4⟩
theorem len1 {α : Type} {l : List α} (h : l.length = 1) : ∃ a, l = [a] := by
  match l, h with
  | [a], _ => exact ⟨a, rfl⟩
theorem show_any (B g : Nat) (hgT : 1 < B) : ∀ (N : Nat) (x : Rx), x.parts ≤ N → x.small → x.wf = true → ShowC B g x
  | 0, x, h, _, _ => by have := Rx.parts_pos x; omega
  | N + 1, .mk k c ng rs lo hi lz ks, h, hsm, hwf => by
    intro cc acc w hv hbl hB ht hlen
    obtain ⟨ra, rc, ka, kc, rfl, hrs, hx⟩ := hv.open_
    obtain ⟨⟨s1, s2, s3, s4⟩, hsmL⟩ := hsm
    obtain ⟨hf, hwl⟩ := wf_mk hwf
    simp only [Rx.parts] at h
    have ih : ∀ y ∈ ks, ShowC B g y := fun y hy => show_any B g hgT N y (by have := Rx.parts_mem hy; omega) (smallL_mem hsmL hy) (wfL_mem hwl hy)
    have hrB : Sl w B ra 2 rs.length (rcells rs) := ⟨hrs.1, fun hn => by
      obtain ⟨b, o, e1, e2, _, e4⟩ := hrs.2 hn
      exact ⟨b, o, e1, e2, e4⟩⟩
    have hal : acc.length ≤ 10000000 := by simp only [List.length_append] at hlen; omega
    unfold rxc
    rcases kind_le hf with rfl | rfl | rfl | rfl | rfl | rfl | rfl | rfl | rfl | rfl | rfl | rfl
    · exact show_seq B g acc c ng ra rs _ rc lo hi lz ka ks kc w ih hgT hbl hB ht hx s4 (by simpa [Rx.tell, tlF] using hlen)
    · exact show_alt B g acc c ng ra rs _ rc lo hi lz ka ks kc w ih hgT hbl hB ht hx s4 (by simpa [Rx.tell, taF] using hlen)
    · have hp : properB c = true := by simp [fieldsB] at hf; exact hf.2
      exact show_char B g acc c ng ra rs _ rc lo hi lz ka ks _ kc w hbl hB hal (proper_ne hp) s1
    · exact show_const B g acc 3 (by simp) c ng ra rs _ rc lo hi lz ka ks _ kc w hbl hB hal
    · have hp : rowsB rs = true := by simp [fieldsB] at hf; exact hf.2
      exact show_set B g acc c ng ra rs rc lo hi lz ka ks _ kc w hbl hB hrB (rows_ne hp) s3 s2 (by simpa [Rx.tell] using hlen)
    · have h1 : ks.length = 1 := by simp [fieldsB] at hf; exact hf.2
      obtain ⟨y, rfl⟩ := len1 h1
      exact show_group B g acc 5 (.inl rfl) c ng ra rs _ rc lo hi lz ka y kc w (ih y (by simp)) hgT hbl hB ht hx hlen
    · have h1 : ks.length = 1 := by simp [fieldsB] at hf; exact hf.2
      obtain ⟨y, rfl⟩ := len1 h1
      exact show_group B g acc 6 (.inr rfl) c ng ra rs _ rc lo hi lz ka y kc w (ih y (by simp)) hgT hbl hB ht hx hlen
    · simp only [fieldsB] at hf
      rw [if_neg (by decide), if_neg (by decide), if_pos trivial] at hf
      simp only [Bool.and_eq_true, decide_eq_true_eq] at hf
      obtain ⟨⟨_, h1⟩, h2, h3, h4⟩ := hf
      match ks, h1 with
      | [y], _ => exact show_rep B g acc c ng ra rs _ rc lo hi lz ka y kc w (ih y (by simp)) hgT h2 h3 h4 hbl hB ht hx hlen
    · exact show_const B g acc 8 (by simp) c ng ra rs _ rc lo hi lz ka ks _ kc w hbl hB hal
    · exact show_const B g acc 9 (by simp) c ng ra rs _ rc lo hi lz ka ks _ kc w hbl hB hal
    · exact show_const B g acc 10 (by simp) c ng ra rs _ rc lo hi lz ka ks _ kc w hbl hB hal
    · exact show_const B g acc 11 (by simp) c ng ra rs _ rc lo hi lz ka ks _ kc w hbl hB hal
end Go.Proofs.YtpggnfpjjppbmaaDoor
