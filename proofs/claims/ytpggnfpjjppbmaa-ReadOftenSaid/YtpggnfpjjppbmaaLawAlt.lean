/- walk of gimletlaw14.ReadAlt -/
import Derived.Test.YtpggnfpjjppbmaaBP
import Derived.Test.YtpggnfpjjppbmaaBY
set_option maxRecDepth 100000
namespace Go.Proofs.Ytpggnfpjjppbmaa
open Go.RowKit
def RdAny (w : World) (e : Ending) (w' : World) : Prop := ∃ (k : Int) (c : Str) (ng : Bool) (ra : Option Addr) (rn rc : Nat) (lo hi : Int) (lz : Bool) (ka : Option Addr) (kn kc : Nat) (q : Int), e = .returned (.tuple #[.agg #[.int .i64 k, .string ⟨(c).toArray⟩, .bool ng, .slice ra rn rc, .int .i64 lo, .int .i64 hi, .bool lz, .slice ka kn kc], .int .i64 q]) ∧ Below w.heap.size w w'
theorem Read_gen {s : Str} (w : World) (hs : s.length ≤ 1000000) : Calls Try.prog 13 #[.string ⟨(s).toArray⟩] w fun e w' => RdAny w e w' := by
  refine (Read_any s w hs).mono ?_
  rintro e w' ⟨h1, h2⟩
  cases hr : readM s with
  | error q => rw [hr] at h2; exact ⟨0, [], false, none, 0, 0, 0, 0, false, none, 0, 0, q, h2, h1⟩
  | ok x =>
    rw [hr] at h2
    obtain ⟨cc, rfl, hv⟩ := h2
    obtain ⟨k, c, n, r, l, h, z, s, a, d, b, g, _, rfl⟩ := hv.box
    exact ⟨k, c, n, a, r.length, d, l, h, z, b, s.length, g, 0, rfl, h1⟩
theorem bstep {w w1 w2 : World} {o : Obj} (h : Below w.heap.size w w1) (h2 : Below (w1.alloc o).heap.size (w1.alloc o) w2) : Below w.heap.size w w2 :=
  (h.alloc h.size o).trans (h2.mono (by have := h.size; simp; omega))
theorem readM_small {s : Str} {x : Rx} (h : readM s = .ok x) : x.small ∧ x.parts ≤ 1000 := by
  obtain ⟨a1, a2, a3⟩ := readM_ok.1 h
  have := splitM_len s
  obtain ⟨f1, f2, f3, f4⟩ := pat_facts _ _ _ _ _ (by omega) a3 (splitM_ok (by omega))
  exact ⟨f1, by simp at f2; omega⟩
def LitPost (u : Rx) (b : Nat) (cs : Array Value) (w0 : World) (e : Ending) (w' : World) : Prop := ∃ cc, e = .returned (.agg cc.toArray) ∧ RxV w' (fun _ => True) cc u ∧ Below w0.heap.size w0 w' ∧ w'.heap[b]? = some (.cells cs 26 (0, 0))
theorem two_slice {w W : World} {c1 c2 : List Value} {x y : Rx} {t : TypeId} (hx : RxV w (fun _ => True) c1 x) (hy : RxV w (fun _ => True) c2 y) (hW : Below (w.alloc (.cells (c1 ++ c2).toArray t)).heap.size (w.alloc (.cells (c1 ++ c2).toArray t)) W) : RxSl W (fun _ => True) (some ⟨w.heap.size, 0, none⟩) 2 [x, y] := by
  have hb : Below w.heap.size w (w.alloc (.cells (c1 ++ c2).toArray t)) := (Below.refl _ _).alloc (Nat.le_refl _) _
  refine RxSl.later ⟨[c1, c2], ⟨by simp [hx.len, hy.len], fun _ => ⟨w.heap.size, 0, rfl, trivial, by simp, fun j u hu => ?_⟩⟩, .cons (hx.later hb) (.cons (hy.later hb) .nil)⟩ hW
  rw [Lib.cell_of_heap (heap_alloc_new w _)]; simpa using hu
theorem Alt_lit {w W : World} {c1 c2 : List Value} {x y : Rx} {t : TypeId} {b : Nat} {cs : Array Value} (hx : RxV w (fun _ => True) c1 x) (hy : RxV w (fun _ => True) c2 y) (hp : Rx.partsL [x, y] ≤ 1000000) (hs : Rx.smallL [x, y]) (hq : w.heap[b]? = some (.cells cs 26 (0, 0)))
    (hW : Below (w.alloc (.cells (c1 ++ c2).toArray t)).heap.size (w.alloc (.cells (c1 ++ c2).toArray t)) W) :
    Calls Try.prog 16 #[.slice (some ⟨w.heap.size, 0, none⟩) 2 2] W fun e w' => LitPost (altR [x, y]) b cs w e w' := by
  refine (Alt_any _ _ 2 [x, y] W (two_slice hx hy hW) hp hs).mono ?_
  rintro e w' ⟨cc, h1, h2, h3⟩
  have hb : Below w.heap.size w (w.alloc (.cells (c1 ++ c2).toArray t)) := (Below.refl _ _).alloc (Nat.le_refl _) _
  have hq' := (h3.block _ (heap_lt ((hW.block _ (heap_lt ((hb.block _ (heap_lt hq)).trans hq))).trans ((hb.block _ (heap_lt hq)).trans hq)))).trans ((hW.block _ (heap_lt ((hb.block _ (heap_lt hq)).trans hq))).trans ((hb.block _ (heap_lt hq)).trans hq))
  exact ⟨cc, h1, h2.mono fun _ _ _ => trivial, (hb.trans (hW.mono hb.size)).trans (h3.mono (Nat.le_trans hb.size hW.size)), hq'⟩
theorem Seq_lit {w W : World} {c1 c2 : List Value} {x y : Rx} {t : TypeId} {b : Nat} {cs : Array Value} (hx : RxV w (fun _ => True) c1 x) (hy : RxV w (fun _ => True) c2 y) (hp : Rx.partsL [x, y] ≤ 1000000) (hs : Rx.smallL [x, y]) (hq : w.heap[b]? = some (.cells cs 26 (0, 0)))
    (hW : Below (w.alloc (.cells (c1 ++ c2).toArray t)).heap.size (w.alloc (.cells (c1 ++ c2).toArray t)) W) :
    Calls Try.prog 17 #[.slice (some ⟨w.heap.size, 0, none⟩) 2 2] W fun e w' => LitPost (seqR [x, y]) b cs w e w' := by
  refine (Seq_any _ _ 2 [x, y] W (two_slice hx hy hW) hp hs).mono ?_
  rintro e w' ⟨cc, h1, h2, h3⟩
  have hb : Below w.heap.size w (w.alloc (.cells (c1 ++ c2).toArray t)) := (Below.refl _ _).alloc (Nat.le_refl _) _
  have hq' := (h3.block _ (heap_lt ((hW.block _ (heap_lt ((hb.block _ (heap_lt hq)).trans hq))).trans ((hb.block _ (heap_lt hq)).trans hq)))).trans ((hW.block _ (heap_lt ((hb.block _ (heap_lt hq)).trans hq))).trans ((hb.block _ (heap_lt hq)).trans hq))
  exact ⟨cc, h1, h2.mono fun _ _ _ => trivial, (hb.trans (hW.mono hb.size)).trans (h3.mono (Nat.le_trans hb.size hW.size)), hq'⟩
theorem Same_lit {wq w5 W : World} {S S' : Nat → Prop} {cc cc' : List Value} {x : Rx} (hs : x.small) (h : RxV wq S cc x) (h5 : RxV w5 S' cc' x) (hB : Below wq.heap.size wq w5) (hW : Below w5.heap.size w5 W) :
    Calls Try.prog 15 #[.agg cc.toArray, .agg cc'.toArray] W fun e w' => e = .returned (.bool true) ∧ Below wq.heap.size wq w' :=
  (Same_eq W hs ((h.later hB).later hW) (h5.later hW)).mono fun _ _ ⟨h1, h2⟩ => ⟨h1, (hB.trans (hW.mono hB.size)).trans (h2.mono (Nat.le_trans hB.size hW.size))⟩
theorem awake_lit {w wq W : World} (hB : Below w.heap.size w wq) (hW : Below wq.heap.size wq W) :
    Calls Try.prog 12 #[] W fun e w' => e = .returned (.bool true) ∧ Below w.heap.size w w' :=
  (awake_any W).mono fun _ _ ⟨h1, h2⟩ => ⟨h1, (hB.trans (hW.mono hB.size)).trans (h2.mono (Nat.le_trans hB.size hW.size))⟩
theorem readM_err {s : Str} {q : Int} (h : readM s = .error q) : q ≠ 0 := by
  have hc : ∀ l : List Str, readC l = .error q → q ≠ 0 := by
    intro l h
    unfold readC at h
    cases hp : patF (l.length + 1) l 0 with
    | error e => rw [hp] at h; injection h with h; subst h; exact pat_err _ _ _ _ hp
    | ok y =>
      obtain ⟨y, r⟩ := y
      rw [hp] at h
      cases r with
      | nil => cases h
      | cons c r => injection h with h; rw [← h]; decide
  unfold readM at h
  by_cases hl : 256 < s.length
  · rw [if_pos hl] at h; injection h with h; rw [← h]; decide
  rw [if_neg hl] at h
  cases hs : splitM s with
  | nil => rw [hs] at h; exact hc _ h
  | cons c r =>
    rw [hs] at h
    simp only at h
    by_cases hp : properB c = true
    · rw [if_pos hp] at h; exact hc _ h
    · rw [if_neg hp] at h; injection h with h; rw [← h]; decide
set_option maxHeartbeats 8000000 in
theorem ReadAlt_walk (s t : Str) (w : World) (hs : s.length ≤ maxLen) (ht : t.length ≤ maxLen) :
    Calls Try.prog 4 #[.string ⟨(s).toArray⟩, .string ⟨(t).toArray⟩] w fun e w' => e = .returned (.bool true) ∧ Below w.heap.size w w' := by
  unfold maxLen at hs ht
  by_cases h1 : s.length ≤ 100
  · by_cases h2 : t.length ≤ 100
    · cases hx : readM s with
      | error q =>
        have hq0 := readM_err hx
        have HX := Lib.hid (fun w => Read_no w (by omega) hx)
        have ne1 : (q != 0) = true := by simp [bne, hq0]
        clear hx
        go_enter Try.func4, Try.ntmps4
        go_wp2_with (go_at_call 13; refine (HX.out _).mono ?_)
        rintro e w1 ⟨rfl, hb1⟩
        unfold rxv0
        go_wp2_with (go_at_call 13; refine (Read_gen (s := t) _ (by first | omega | (simp; omega))).mono ?_)
        rintro e w2 ⟨k2, c2, n2, a2, r2, d2, l2, h2, z2, b2, s2, g2, q2, rfl, hb2⟩
        go_wp2_with (go_at_call 13; refine (Read_gen (s := s ++ 124 :: t) _ (by first | omega | (simp; omega))).mono ?_)
        rintro e w3 ⟨k3, c3, n3, a3, r3, d3, l3, h3, z3, b3, s3, g3, q3, rfl, hb3⟩
        go_wp2_with (go_at_call 12; refine (awake_any _).mono ?_)
        rintro e w9 ⟨rfl, hb9⟩
        go_wp2
        go_ret
        exact ⟨rfl, bstep (bstep (bstep hb1 hb2) hb3) hb9⟩
      | ok x =>
        cases hy : readM t with
        | error q =>
          have hq0 := readM_err hy
          have HX := Lib.hid (fun w => Read_ok w (by omega) hx)
          have HY := Lib.hid (fun w => Read_no w (by omega) hy)
          have ne1 : (q != 0) = true := by simp [bne, hq0]
          clear hx hy
          go_enter Try.func4, Try.ntmps4
          go_wp2_with (go_at_call 13; refine (HX.out _).mono ?_)
          rintro e w1 ⟨hb1, cc1, rfl, hv1⟩
          obtain ⟨k1, c1, n1, r1, l1, h1, z1, s1, a1, d1, b1, g1, hx1, rfl⟩ := hv1.box
          have HV1 := Lib.hid hv1
          have HX1 := Lib.hid hx1
          clear hv1 hx1
          unfold rxc at HV1 ⊢
          go_wp2_with (go_at_call 13; refine (HY.out _).mono ?_)
          rintro e w2 ⟨rfl, hb2⟩
          unfold rxv0
          go_wp2_with (go_at_call 13; refine (Read_gen (s := s ++ 124 :: t) _ (by first | omega | (simp; omega))).mono ?_)
          rintro e w3 ⟨k3, c3, n3, a3, r3, d3, l3, h3, z3, b3, s3, g3, q3, rfl, hb3⟩
          go_wp2_with (go_at_call 12; refine (awake_any _).mono ?_)
          rintro e w9 ⟨rfl, hb9⟩
          go_wp2
          go_ret
          exact ⟨rfl, bstep (bstep (bstep hb1 hb2) hb3) hb9⟩
        | ok y =>
          have hz := read_alt (by omega) hx hy
          obtain ⟨sx, px⟩ := readM_small hx
          obtain ⟨sy, py⟩ := readM_small hy
          obtain ⟨sz, pz⟩ := readM_small hz
          have HX := Lib.hid (fun w => Read_ok w (by omega) hx)
          have HY := Lib.hid (fun w => Read_ok w (by omega) hy)
          have HZ := Lib.hid (fun w => Read_ok w (by simp; omega) hz)
          clear hx hy hz
          go_enter Try.func4, Try.ntmps4
          go_wp2_with (go_at_call 13; refine (HX.out _).mono ?_)
          rintro e w1 ⟨hb1, cc1, rfl, hv1⟩
          obtain ⟨k1, c1, n1, r1, l1, h1, z1, s1, a1, d1, b1, g1, hx1, rfl⟩ := hv1.box
          have HV1 := Lib.hid hv1
          have HX1 := Lib.hid hx1
          clear hv1 hx1
          unfold rxc at HV1 ⊢
          go_wp2_with (go_at_call 13; refine (HY.out _).mono ?_)
          rintro e w2 ⟨hb2, cc2, rfl, hv2⟩
          obtain ⟨k2, c2, n2, r2, l2, h2, z2, s2, a2, d2, b2, g2, hx2, rfl⟩ := hv2.box
          have HV2 := Lib.hid hv2
          have HX2 := Lib.hid hx2
          clear hv2 hx2
          unfold rxc at HV2 ⊢
          go_wp2_with (go_at_call 13; refine (HZ.out _).mono ?_)
          rintro e w3 ⟨hb3, cc3, rfl, hv3⟩
          obtain ⟨k3, c3, n3, r3, l3, h3, z3, s3, a3, d3, b3, g3, hx3, rfl⟩ := hv3.box
          have HV3 := Lib.hid hv3
          have HX3 := Lib.hid hx3
          clear hv3 hx3
          unfold rxc at HV3 ⊢
          go_upto_region 8 with fail
          have hB1 : Below w1.heap.size w1 (w1.alloc (.cells #[.int .i64 k1, .string ⟨(c1).toArray⟩, .bool n1, .slice a1 r1.length d1, .int .i64 l1, .int .i64 h1, .bool z1, .slice b1 s1.length g1] 26)) := (Below.refl _ _).alloc (Nat.le_refl _) _
          have hB2 : Below w2.heap.size w2 (w2.alloc (.cells #[.int .i64 k2, .string ⟨(c2).toArray⟩, .bool n2, .slice a2 r2.length d2, .int .i64 l2, .int .i64 h2, .bool z2, .slice b2 s2.length g2] 26)) := (Below.refl _ _).alloc (Nat.le_refl _) _
          obtain ⟨wq, hwq⟩ : ∃ wq, wq = w3.alloc (.cells #[.int .i64 k3, .string ⟨(c3).toArray⟩, .bool n3, .slice a3 r3.length d3, .int .i64 l3, .int .i64 h3, .bool z3, .slice b3 s3.length g3] 26) := ⟨_, rfl⟩
          have hB3 : Below w3.heap.size w3 wq := by rw [hwq]; exact (Below.refl _ _).alloc (Nat.le_refl _) _
          rw [← hwq]
          have q1 : wq.heap[w1.heap.size]? = some (.cells #[.int .i64 k1, .string ⟨(c1).toArray⟩, .bool n1, .slice a1 r1.length d1, .int .i64 l1, .int .i64 h1, .bool z1, .slice b1 s1.length g1] 26 (0, 0)) := by
            have e1 := heap_alloc_new w1 (.cells #[.int .i64 k1, .string ⟨(c1).toArray⟩, .bool n1, .slice a1 r1.length d1, .int .i64 l1, .int .i64 h1, .bool z1, .slice b1 s1.length g1] 26)
            have e2 := (hb2.block _ (heap_lt e1)).trans e1
            have e3 := (hB2.block _ (heap_lt e2)).trans e2
            have e4 := (hb3.block _ (heap_lt e3)).trans e3
            exact (hB3.block _ (heap_lt e4)).trans e4
          have q2 : wq.heap[w2.heap.size]? = some (.cells #[.int .i64 k2, .string ⟨(c2).toArray⟩, .bool n2, .slice a2 r2.length d2, .int .i64 l2, .int .i64 h2, .bool z2, .slice b2 s2.length g2] 26 (0, 0)) := by
            have e3 := heap_alloc_new w2 (.cells #[.int .i64 k2, .string ⟨(c2).toArray⟩, .bool n2, .slice a2 r2.length d2, .int .i64 l2, .int .i64 h2, .bool z2, .slice b2 s2.length g2] 26)
            have e4 := (hb3.block _ (heap_lt e3)).trans e3
            exact (hB3.block _ (heap_lt e4)).trans e4
          have q3 : wq.heap[w3.heap.size]? = some (.cells #[.int .i64 k3, .string ⟨(c3).toArray⟩, .bool n3, .slice a3 r3.length d3, .int .i64 l3, .int .i64 h3, .bool z3, .slice b3 s3.length g3] 26 (0, 0)) := by rw [hwq]; exact heap_alloc_new w3 _
          have hz1 := hb1.size
          have hz2 := hb2.size
          have hz3 := hb3.size
          simp only [World.size_alloc] at hz2 hz3
          have hbw : Below w.heap.size w wq := (((((hb1.trans (hB1.mono (by omega))).trans (hb2.mono (by simp; omega))).trans (hB2.mono (by omega))).trans (hb3.mono (by simp; omega))).trans (hB3.mono (by omega)))
          have hu : Below w1.heap.size w1 wq := ((((hB1.trans (hb2.mono (by simp))).trans (hB2.mono (by omega))).trans (hb3.mono (by simp; omega))).trans (hB3.mono (by omega)))
          have hv : Below w2.heap.size w2 wq := ((hB2.trans (hb3.mono (by simp))).trans (hB3.mono (by omega)))
          have hvx : RxV wq (fun _ => True) _ x := (HV1.out.later hu).mono fun _ _ _ => trivial
          have hvy : RxV wq (fun _ => True) _ y := (HV2.out.later hv).mono fun _ _ _ => trivial
          have hvz : RxV wq (fun _ => True) _ (altR [x, y]) := (HV3.out.later hB3).mono fun _ _ _ => trivial
          have hpp : Rx.partsL [x, y] ≤ 1000000 := by simp only [Rx.partsL]; omega
          have hss : Rx.smallL [x, y] := ⟨sx, sy, trivial⟩
          have hAL : ∀ W : World, Below (wq.alloc (.cells #[.int .i64 k1, .string ⟨(c1).toArray⟩, .bool n1, .slice a1 r1.length d1, .int .i64 l1, .int .i64 h1, .bool z1, .slice b1 s1.length g1, .int .i64 k2, .string ⟨(c2).toArray⟩, .bool n2, .slice a2 r2.length d2, .int .i64 l2, .int .i64 h2, .bool z2, .slice b2 s2.length g2] 26)).heap.size (wq.alloc (.cells #[.int .i64 k1, .string ⟨(c1).toArray⟩, .bool n1, .slice a1 r1.length d1, .int .i64 l1, .int .i64 h1, .bool z1, .slice b1 s1.length g1, .int .i64 k2, .string ⟨(c2).toArray⟩, .bool n2, .slice a2 r2.length d2, .int .i64 l2, .int .i64 h2, .bool z2, .slice b2 s2.length g2] 26)) W → Calls Try.prog 16 #[.slice (some ⟨wq.heap.size, 0, none⟩) 2 2] W fun e w' => LitPost (altR [x, y]) w3.heap.size #[.int .i64 k3, .string ⟨(c3).toArray⟩, .bool n3, .slice a3 r3.length d3, .int .i64 l3, .int .i64 h3, .bool z3, .slice b3 s3.length g3] wq e w' :=
            fun W hW => Alt_lit hvx hvy hpp hss q3 hW
          have HAL := Lib.hid hAL
          have lt1 := heap_lt q1
          have lt2 := heap_lt q2
          have lt3 := heap_lt q3
          have ne1 : w1.heap.size ≠ wq.heap.size := Nat.ne_of_lt lt1
          have ne2 : w2.heap.size ≠ wq.heap.size := Nat.ne_of_lt lt2
          have ne3 : w3.heap.size ≠ wq.heap.size := Nat.ne_of_lt lt3
          have HVZ := Lib.hid hvz
          have HSZ := Lib.hid sz
          have HBW := Lib.hid hbw
          obtain ⟨x0, x1, x2, x3, x4, x5, x6, x7, x8⟩ := bx_cells q1
          obtain ⟨y0, y1, y2, y3, y4, y5, y6, y7, y8⟩ := bx_cells q2
          obtain ⟨z0, z1', z2', z3', z4, z5, z6, z7, z8⟩ := bx_cells q3
          clear q1 q2 q3 hwq x8 y8 z8 hAL hvz hvx hvy hpp hss hB1 hB2 hB3 hu hv hbw HV1 HV2 HV3 HX1 HX2 HX3 HX HY HZ hb1 hb2 hb3 hz1 hz2 hz3 sx sy sz px py pz
          go_region_with (first
            | (go_at_call 16; refine (HAL.out _ (by (repeat (first | with_reducible exact Below.refl _ _ | with_reducible assumption | (refine Below.setCell ?_ (by simp) _) | (refine Below.alloc ?_ (by first | (simp; done) | (simp; omega)) _) | (refine Below.drew ?_))))).mono ?_; rintro e w5 ⟨cc5, rfl, hv5, hB5, hc5⟩; obtain ⟨k5, c5, n5, r5, l5, h5, z5', s5, a5, d5, b5, g5, hx5, rfl⟩ := hv5.box; unfold rxc at hv5 ⊢; obtain ⟨t0, t1, t2, t3, t4, t5, t6, t7, t8⟩ := bx_cells hc5; clear hc5 t8; have HV5 := Lib.hid hv5; have HX5 := Lib.hid hx5; clear hv5 hx5)
            | (go_at_call 15; refine (Same_lit HSZ.out HVZ.out HV5.out hB5 (by (repeat (first | with_reducible exact Below.refl _ _ | with_reducible assumption | (refine Below.setCell ?_ (by simp) _) | (refine Below.alloc ?_ (by first | (simp; done) | (simp; omega)) _) | (refine Below.drew ?_))))).mono ?_; rintro e w6 ⟨rfl, hB6⟩)
            | (go_at_call 12; refine (awake_lit HBW.out (by (repeat (first | with_reducible exact Below.refl _ _ | with_reducible assumption | (refine Below.setCell ?_ (by simp) _) | (refine Below.alloc ?_ (by first | (simp; done) | (simp; omega)) _) | (refine Below.drew ?_))))).mono ?_; rintro e w7 ⟨rfl, hb7⟩))
          all_goals (go_wp2; go_ret; exact ⟨rfl, hb7⟩)
    · go_enter Try.func4, Try.ntmps4
      go_wp2_with (go_at_call 12; refine (awake_any _).mono ?_; rintro e w4 ⟨rfl, hb4⟩)
      all_goals first
        | (go_ret; exact ⟨rfl, hb4⟩)
        | (exfalso; omega)
  · go_enter Try.func4, Try.ntmps4
    go_wp2_with (go_at_call 12; refine (awake_any _).mono ?_; rintro e w4 ⟨rfl, hb4⟩)
    all_goals first
      | (go_ret; exact ⟨rfl, hb4⟩)
      | (exfalso; omega)
end Go.Proofs.Ytpggnfpjjppbmaa
