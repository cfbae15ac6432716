/- walks of slices.Equal of rows, slices.EqualFunc of parts, rxtree.Same: of equal trees · walk of rxtree.Same: of equal trees -/
import Derived.Test.YtemophfieihgaaaC2
import Derived.Test.YtemophfieihgaaaR5
import Derived.Test.YtemophfieihgaaaBX
set_option maxRecDepth 100000
namespace Go.Proofs.Ytemophfieihgaaa
open Go.RowKit
def EqRel (n : Nat) (w : World) (q : Value) (wr : World) : Prop := ∃ i : Nat, i ≤ n ∧ q = .int .i64 i ∧ Below w.heap.size w wr
set_option maxHeartbeats 1000000 in
theorem Equal_same (a a' : Option Addr) (c c' : Nat) (rs : List (Str × Str)) (w : World) (h : Sl w w.heap.size a 2 rs.length (rcells rs)) (h' : Sl w w.heap.size a' 2 rs.length (rcells rs)) (hl : rs.length ≤ 1000000) :
    Calls Try.prog 14 #[.slice a rs.length c, .slice a' rs.length c'] w fun e w' => e = .returned (.bool true) ∧ Below w.heap.size w w' := by
  have H1 := Lib.hid h
  have H2 := Lib.hid h'
  clear h h'
  go_enter Try.func14, Try.ntmps14
  go_wp2
  go_loopw [13] (fun q wr => EqRel rs.length w q wr) (fun q _ => rs.length - (intOf q).toNat)
  case atStart => exact ⟨0, by omega, rfl, Below.refl _ _⟩
  case round =>
    obtain ⟨i, hi, rfl, hb⟩ := hrel
    cases hd : rs[i]? with
    | none =>
      have h2 : rs.length ≤ i := by simpa using hd
      clear hd
      go_wp2
      go_ret
      exact ⟨rfl, hb⟩
    | some r =>
      have h2 := (List.getElem?_eq_some_iff.1 hd).1
      obtain ⟨b, o, rfl, hb1, c0, c1⟩ := (H1.out.keep hb).row hd
      obtain ⟨b', o', rfl, hb1', c0', c1'⟩ := (H2.out.keep hb).row hd
      obtain ⟨x, y⟩ := r
      simp only at c0 c1 c0' c1'
      clear hd
      go_wp2
      go_quiet (fail)
      go_wp2
      exact ⟨⟨i + 1, by omega, by go_num, below_drewN hb _⟩, by simp [intOf]; omega⟩
def SameC (y : Rx) : Prop := ∀ (S S' : Nat → Prop) (cc cc' : List Value) (w : World), RxV w S cc y → RxV w S' cc' y →
  Calls Try.prog 7 #[.agg cc.toArray, .agg cc'.toArray] w fun e w' => e = .returned (.bool true) ∧ Below w.heap.size w w'
theorem RxV.box' {w : World} {S : Nat → Prop} {cc : List Value} {k : Int} {c : Str} {ng : Bool} {rs : List (Str × Str)} {lo hi : Int} {lz : Bool} {ks : List Rx} (h : RxV w S cc (.mk k c ng rs lo hi lz ks)) :
    ∃ ra rc ka kc, cc = rxc k c ng ra rs.length rc lo hi lz ka ks.length kc ∧ Sl w w.heap.size ra 2 rs.length (rcells rs) ∧ RxSl w S ka ks.length ks := by
  obtain ⟨ra, rc, ka, kc, h1, h2, h3⟩ := h.open_
  exact ⟨ra, rc, ka, kc, h1, h2.sl, h3⟩
set_option maxHeartbeats 2000000 in
theorem EqualF_same (S S' : Nat → Prop) (a a' : Option Addr) (c c' : Nat) (ks : List Rx) (w : World) (IH : ∀ y ∈ ks, SameC y) (h : RxSl w S a ks.length ks) (h' : RxSl w S' a' ks.length ks) (hl : ks.length ≤ 1000000) :
    Calls Try.prog 15 #[.slice a ks.length c, .slice a' ks.length c', .func (.func 7) #[] #[]] w fun e w' => e = .returned (.bool true) ∧ Below w.heap.size w w' := by
  have H1 := Lib.hid h
  have H2 := Lib.hid h'
  have HIH := Lib.hid IH
  clear h h' IH
  go_enter Try.func15, Try.ntmps15
  go_wp2
  go_loopw [17] (fun q wr => EqRel ks.length w q wr) (fun q _ => ks.length - (intOf q).toNat)
  case atStart => exact ⟨0, by omega, rfl, Below.refl _ _⟩
  case round =>
    obtain ⟨i, hi, rfl, hb⟩ := hrel
    cases hd : ks[i]? with
    | none =>
      have h2 : ks.length ≤ i := by simpa using hd
      clear hd
      go_wp2
      go_ret
      exact ⟨rfl, hb⟩
    | some y =>
      have h2 := (List.getElem?_eq_some_iff.1 hd).1
      have HY := Lib.hid (HIH.out y (List.mem_of_getElem? hd))
      obtain ⟨k, ch, ng, rs, lo, hi', lz, xs⟩ := y
      obtain ⟨b, o, ra, rc, ka, kc, rfl, _, hb1, _, _, hv1, c0, c1, c2, c3, c4, c5, c6, c7⟩ := (H1.out.later hb).cells hd
      obtain ⟨b', o', ra', rc', ka', kc', rfl, _, hb1', _, _, hv1', d0, d1, d2, d3, d4, d5, d6, d7⟩ := (H2.out.later hb).cells hd
      have hbn : Below wr.heap.size wr ((wr.alloc (.cells (rxc k ch ng ra rs.length rc lo hi' lz ka xs.length kc).toArray 26)).alloc (.cells (rxc k ch ng ra' rs.length rc' lo hi' lz ka' xs.length kc').toArray 26)) := ((Below.refl _ _).alloc (Nat.le_refl _) _).alloc (by simp) _
      have HC := Lib.hid (HY.out S S' _ _ _ (hv1.later hbn) (hv1'.later hbn))
      unfold rxc at HC hbn
      have hB := hb.size
      clear hd hv1 hv1' HY
      go_wp2_with (go_at_call 7; refine HC.out.mono ?_)
      rintro e w2 ⟨rfl, hb2⟩
      have hb3 : Below w.heap.size w w2 := (hb.trans (hbn.mono hB)).trans (hb2.mono (Nat.le_trans hB hbn.size))
      clear hbn hb2 HC
      go_wp2
      exact ⟨⟨i + 1, by omega, by go_num, hb3⟩, by simp [intOf]; omega⟩
end Go.Proofs.Ytemophfieihgaaa
namespace Go.Proofs.Ytemophfieihgaaa
open Go.RowKit
set_option maxHeartbeats 2000000 in
theorem Same_any : ∀ (N : Nat) (x : Rx), x.parts ≤ N → x.small → SameC x
  | 0, x, h, _ => by have := Rx.parts_pos x; omega
  | N + 1, .mk k c ng rs lo hi lz ks, h, hsm => by
    intro S S' cc cc' w hv hv'
    obtain ⟨ra, rc, ka, kc, rfl, hrs, hks⟩ := hv.box'
    obtain ⟨ra', rc', ka', kc', rfl, hrs', hks'⟩ := hv'.box'
    obtain ⟨⟨s1, s2, s3, s4⟩, hsmL⟩ := hsm
    simp only [Rx.parts] at h
    have ih : ∀ y ∈ ks, SameC y := fun y hy => Same_any N y (by have := Rx.parts_mem hy; omega) (smallL_mem hsmL hy)
    have HIH := Lib.hid ih
    have hbn : Below w.heap.size w ((w.alloc (.cells (rxc k c ng ra rs.length rc lo hi lz ka ks.length kc).toArray 26)).alloc (.cells (rxc k c ng ra' rs.length rc' lo hi lz ka' ks.length kc').toArray 26)) := ((Below.refl _ _).alloc (Nat.le_refl _) _).alloc (by simp) _
    obtain ⟨w0, hw0⟩ : ∃ w0, w0 = (w.alloc (.cells (rxc k c ng ra rs.length rc lo hi lz ka ks.length kc).toArray 26)).alloc (.cells (rxc k c ng ra' rs.length rc' lo hi lz ka' ks.length kc').toArray 26) := ⟨_, rfl⟩
    rw [← hw0] at hbn
    have hz0 := hbn.size
    have hx1 : w0.heap[w.heap.size]? = some (.cells (rxc k c ng ra rs.length rc lo hi lz ka ks.length kc).toArray 26 (0, 0)) := by rw [hw0, Below.heap_alloc _ _ _ (by simp)]; exact heap_alloc_new w _
    have hx2 : w0.heap[w.heap.size + 1]? = some (.cells (rxc k c ng ra' rs.length rc' lo hi lz ka' ks.length kc').toArray 26 (0, 0)) := by
      rw [hw0]; have := heap_alloc_new (w.alloc (.cells (rxc k c ng ra rs.length rc lo hi lz ka ks.length kc).toArray 26)) (.cells (rxc k c ng ra' rs.length rc' lo hi lz ka' ks.length kc').toArray 26); simpa using this
    have HX1 := Lib.hid hx1
    have HX2 := Lib.hid hx2
    have HEQ := Lib.hid (Equal_same ra ra' rc rc' rs w0 ((hrs.keep hbn).mono hz0) ((hrs'.keep hbn).mono hz0) s2)
    have HK := Lib.hid (hks.later hbn)
    have HK' := Lib.hid (hks'.later hbn)
    clear hks hks' hrs hrs' hv hv' ih hx1 hx2
    unfold rxc at hw0 HX1 HX2 ⊢
    go_enter Try.func7, Try.ntmps7
    go_upto_region 1 with fail
    rw [← hw0]
    clear hw0
    obtain ⟨e0, e1, e2, e3, e4, e5, e6, e7, e8⟩ := bx_cells HX1.out
    obtain ⟨d0, d1, d2, d3, d4, d5, d6, d7, d8⟩ := bx_cells HX2.out
    go_wp2_with (go_at_call 14; refine HEQ.out.mono ?_)
    rintro e w1 ⟨rfl, hb1⟩
    have hx1 := (hb1.block _ (heap_lt HX1.out)).trans HX1.out
    have hx2 := (hb1.block _ (heap_lt HX2.out)).trans HX2.out
    have hbw1 := bel2 hbn hb1
    have HEF := Lib.hid (EqualF_same S S' ka ka' kc kc' ks w1 HIH.out (HK.out.later hb1) (HK'.out.later hb1) s4)
    clear e0 e1 e2 e3 e4 e5 e6 e7 e8 d0 d1 d2 d3 d4 d5 d6 d7 d8 HEQ
    obtain ⟨e0, e1, e2, e3, e4, e5, e6, e7, e8⟩ := bx_cells hx1
    obtain ⟨d0, d1, d2, d3, d4, d5, d6, d7, d8⟩ := bx_cells hx2
    clear hx1 hx2 hb1
    go_wp2_with (go_at_call 15; refine HEF.out.mono ?_)
    rintro e w2 ⟨rfl, hb2⟩
    have hbw2 := bel2 hbw1 hb2
    go_wp2
    go_ret
    exact ⟨rfl, hbw2⟩
theorem Same_eq {x : Rx} {S S' : Nat → Prop} {cc cc' : List Value} (w : World) (hs : x.small) (h : RxV w S cc x) (h' : RxV w S' cc' x) :
    Calls Try.prog 7 #[.agg cc.toArray, .agg cc'.toArray] w fun e w' => e = .returned (.bool true) ∧ Below w.heap.size w w' := Same_any _ x (Nat.le_refl _) hs S S' cc cc' w h h'
end Go.Proofs.Ytemophfieihgaaa
set_option maxRecDepth 100000
namespace Go.Proofs.Ytemophfieihgaaa
open Go.RowKit
def awk1 : Rx := .mk 1 [] false [] 0 0 false [chrR [97], repR 0 (-1) false (chrR [98])]
theorem read_awk1 : readM [97, 124, 98, 42] = .ok awk1 := by rfl
theorem read_awk2 : readM [97, 123, 50, 44, 49, 125] = .error 10 := by rfl
/-- rxread.Read at a text that is read. -/
theorem Read_ok {s : Str} {x : Rx} (w : World) (hs : s.length ≤ 1000000) (h : readM s = .ok x) :
    Calls Try.prog 5 #[.string ⟨(s).toArray⟩] w fun e w' => ReadPost w.heap.size w (.ok x) e w' := h ▸ Read_any s w hs
theorem Read_no {s : Str} {q : Int} (w : World) (hs : s.length ≤ 1000000) (h : readM s = .error q) :
    Calls Try.prog 5 #[.string ⟨(s).toArray⟩] w fun e w' => e = .returned (.tuple #[rxv0, .int .i64 q]) ∧ Below w.heap.size w w' := by
  refine (Read_any s w hs).mono ?_
  rintro e w' ⟨h1, h2⟩
  rw [h] at h2
  exact ⟨h2, h1⟩
set_option maxHeartbeats 1000000 in
theorem awake_any (w : World) : Calls Try.prog 4 #[] w fun e w' => e = .returned (.bool true) ∧ Below w.heap.size w w' := by
  have H1 := Lib.hid (Read_ok (s := [97, 124, 98, 42]) w (by simp) read_awk1)
  go_enter Try.func4, Try.ntmps4
  go_wp2_with (go_at_call 5; refine H1.out.mono ?_)
  rintro e w1 ⟨hb1, cc, rfl, hv⟩
  obtain ⟨ra, rc, ka, kc, hcc, hrs, hks⟩ := hv.box'
  have hcc' : cc = rxc 1 [] false ra 0 rc 0 0 false ka 2 kc := hcc
  subst hcc'
  clear hcc
  have hks : RxSl w1 (fun b => w.heap.size ≤ b) ka 2 [chrR [97], repR 0 (-1) false (chrR [98])] := hks
  have hz1 := hb1.size
  have hbx : Below w1.heap.size w1 (w1.alloc (.cells (rxc 1 [] false ra 0 rc 0 0 false ka 2 kc).toArray 26)) := (Below.refl _ _).alloc (Nat.le_refl _) _
  have hx1 : (w1.alloc (.cells (rxc 1 [] false ra 0 rc 0 0 false ka 2 kc).toArray 26)).heap[w1.heap.size]? = some (.cells (rxc 1 [] false ra 0 rc 0 0 false ka 2 kc).toArray 26 (0, 0)) := heap_alloc_new w1 _
  have HK := Lib.hid (hks.later hbx)
  have HX1 := Lib.hid hx1
  have hbw1 := hb1.trans (hbx.mono hz1)
  have H2 := Lib.hid (Read_no (s := [97, 123, 50, 44, 49, 125]) (w1.alloc (.cells (rxc 1 [] false ra 0 rc 0 0 false ka 2 kc).toArray 26)) (by simp) read_awk2)
  clear hks hrs hv hx1 hb1 hbx H1
  unfold rxc at H2 HX1 HK hbw1 ⊢
  go_wp2_with (go_at_call 5; refine H2.out.mono ?_)
  rintro e w2 ⟨rfl, hb2⟩
  have hbz : Below w2.heap.size w2 (w2.alloc (.cells #[.int .i64 0, .string ⟨#[]⟩, .bool false, .slice none 0 0, .int .i64 0, .int .i64 0, .bool false, .slice none 0 0] 26)) := (Below.refl _ _).alloc (Nat.le_refl _) _
  have hx2 := (hb2.block _ (heap_lt HX1.out)).trans HX1.out
  have hx3 := (hbz.block _ (heap_lt hx2)).trans hx2
  have hk3 := (HK.out.later hb2).later hbz
  obtain ⟨f0, f1, f2, f3, f4, f5, f6, f7, f8⟩ := bx_cells (c := []) hx3
  unfold repR at hk3
  obtain ⟨b, o, xa, xrc, xka, xkc, rfl, _, _, _, _, _, k0, _, _, _, _, k5, _, _⟩ := hk3.cells (m := 1) rfl
  simp only [Nat.one_mul] at k0 k5
  have hbw3 := (hbw1.trans (hb2.mono (by simp; omega))).trans (hbz.mono (by have := hb2.size; simp at this; omega))
  clear hx2 hx3 hk3 hb2 hbz HX1 HK H2
  unfold rxv0
  go_wp2
  go_ret
  exact ⟨rfl, hbw3⟩
end Go.Proofs.Ytemophfieihgaaa
