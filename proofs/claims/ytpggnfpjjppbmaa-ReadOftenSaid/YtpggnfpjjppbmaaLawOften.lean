/- walk of gimletlaw14.ReadOften -/
import Derived.Test.YtpggnfpjjppbmaaLawTimes
import Derived.Test.YtpggnfpjjppbmaaBP
import Derived.Test.YtpggnfpjjppbmaaLawGroup
import Derived.Test.YtpggnfpjjppbmaaRly
set_option maxRecDepth 100000
namespace Go.Proofs.Ytpggnfpjjppbmaa
open Go.RowKit
theorem small_want {lo hi : Int} {lz : Bool} {k : Int} {x : Rx} (h : x.small) : (repR lo hi lz (grpR k x)).small := by
  unfold repR grpR
  simp only [Rx.small, Rx.small1, Rx.smallL]
  exact ⟨⟨by simp, by simp, by simp, by simp⟩, ⟨⟨by simp, by simp, by simp, by simp⟩, h, trivial⟩, trivial⟩
def grpC (kd : Int) (b : Nat) : Array Value := #[.int .i64 kd, .string ⟨#[]⟩, .bool false, .slice none 0 0, .int .i64 0, .int .i64 0, .bool false, .slice (some ⟨b, 0, none⟩) 1 1]
def repC (lo hi : Int) (lz : Bool) (b : Nat) : Array Value := #[.int .i64 7, .string ⟨#[]⟩, .bool false, .slice none 0 0, .int .i64 lo, .int .i64 hi, .bool lz, .slice (some ⟨b, 0, none⟩) 1 1]
/-- What is wanted lies in block g. -/
def WantAt (wq : World) (x : Rx) (kd lo hi : Int) (lz : Bool) (p : Value) (W : World) : Prop :=
  ∃ (g b : Nat), p = .pointer (some ⟨g, 0, none⟩) ∧ wq.heap.size ≤ g ∧ Below wq.heap.size wq W ∧ W.heap[g]? = some (.cells (repC lo hi lz b) 26 (0, 0)) ∧ RxV W Any (repC lo hi lz b).toList (repR lo hi lz (grpR kd x))
theorem WantAt.of {wq W : World} {x : Rx} {kd lo hi : Int} {lz : Bool} {cc : List Value} {S : Nat → Prop} {g b b1 : Nat} (hv : RxV wq S cc x) (hb : Below wq.heap.size wq W) (hg : wq.heap.size ≤ g) (h1 : W.heap[g]? = some (.cells (repC lo hi lz b) 26 (0, 0))) (h2 : W.heap[b]? = some (.cells (grpC kd b1) 26 (0, 0))) (h3 : W.heap[b1]? = some (.cells cc.toArray 26 (0, 0))) :
    WantAt wq x kd lo hi lz (.pointer (some ⟨g, 0, none⟩)) W := by
  have hx : RxV W Any cc x := (hv.later hb).mono fun _ _ _ => trivial
  have hgr : RxV W Any (grpC kd b1).toList (grpR kd x) := RxV.close (rs := []) (ks := [x]) (SlS.none_ _ _ _ _) (RxSl.one hx h3 trivial)
  exact ⟨g, b, rfl, hg, hb, h1, RxV.close (rs := []) (ks := [grpR kd x]) (SlS.none_ _ _ _ _) (RxSl.one hgr h2 trivial)⟩
theorem hnew {w : World} {cs : Array Value} {t : TypeId} {k : Nat} (h : k = w.heap.size) : (w.alloc (.cells cs t)).heap[k]? = some (.cells cs t (0, 0)) := by
  subst h; exact heap_alloc_new w _
theorem arr_i {k : Nat} (hk : k < 4) (a b c d : Int) (W : World) (z : Int) (hz : z = match k with | 0 => a | 1 => b | 2 => c | _ => d) : (W.alloc (.cells #[.int .i64 a, .int .i64 b, .int .i64 c, .int .i64 d] 3)).cell? ⟨W.heap.size, k, none⟩ = some (.int .i64 z) := by
  rw [Lib.cell_of_heap (heap_alloc_new W _), hz]
  rcases (show k = 0 ∨ k = 1 ∨ k = 2 ∨ k = 3 by omega) with rfl | rfl | rfl | rfl <;> rfl
theorem arr_s {k : Nat} (hk : k < 4) (W : World) : (W.alloc (.cells #[.string ⟨#[42]⟩, .string ⟨#[43]⟩, .string ⟨#[63]⟩, .string ⟨#[123, 50, 44, 55, 125]⟩] 9)).cell? ⟨W.heap.size, k, none⟩ = some (.string ⟨(sgS k).toArray⟩) := by
  rw [Lib.cell_of_heap (heap_alloc_new W _)]
  rcases (show k = 0 ∨ k = 1 ∨ k = 2 ∨ k = 3 by omega) with rfl | rfl | rfl | rfl <;> rfl
def oA : Obj := .cells #[.int .i64 0, .int .i64 1, .int .i64 0, .int .i64 2] 3 (0, 0)
def oB : Obj := .cells #[.int .i64 (-1), .int .i64 (-1), .int .i64 1, .int .i64 7] 3 (0, 0)
/-- What each operation of the region has yielded; p: the block of what is wanted, if it is there. -/
def OfF (k : Nat) (bx : Array Value) (kd lo hi : Int) (lz : Bool) : Nat → Value → Option Nat → World → Prop
  | 0, x, _, w => ∃ g, x = .slice (some ⟨g, 0, none⟩) 4 4 ∧ w.heap[g]? = some oA
  | 1, x, _, _ => x = .int .i64 k
  | 2, x, _, w => ∃ g, x = .pointer (some ⟨g, k, none⟩) ∧ w.heap[g]? = some oA
  | 3, x, _, _ => x = .int .i64 lo
  | 4, x, _, w => ∃ g, x = .slice (some ⟨g, 0, none⟩) 4 4 ∧ w.heap[g]? = some oB
  | 5, x, _, _ => x = .int .i64 k
  | 6, x, _, w => ∃ g, x = .pointer (some ⟨g, k, none⟩) ∧ w.heap[g]? = some oB
  | 7, x, _, _ => x = .int .i64 hi
  | 8, x, _, _ => x = .bool lz
  | 9, x, _, _ => x = .int .i64 kd
  | 10, x, _, _ => x = .agg bx
  | 11, x, p, w => ∃ g, x = .slice (some ⟨g, 0, none⟩) 1 1 ∧ w.heap[g]? = some (.cells bx 26 (0, 0)) ∧ p ≠ some g
  | 12, x, p, w => ∃ g, x = .agg (grpC kd g) ∧ w.heap[g]? = some (.cells bx 26 (0, 0)) ∧ p ≠ some g
  | 13, x, p, w => ∃ g g1, x = .slice (some ⟨g, 0, none⟩) 1 1 ∧ w.heap[g]? = some (.cells (grpC kd g1) 26 (0, 0)) ∧ p ≠ some g ∧ w.heap[g1]? = some (.cells bx 26 (0, 0)) ∧ p ≠ some g1
  | 14, x, p, w => ∃ g g1, x = .agg (repC lo hi lz g) ∧ w.heap[g]? = some (.cells (grpC kd g1) 26 (0, 0)) ∧ p ≠ some g ∧ w.heap[g1]? = some (.cells bx 26 (0, 0)) ∧ p ≠ some g1
  | 15, x, p, w => ∃ g, x = .pointer (some ⟨g, 0, none⟩) ∧ p = some g ∧ w.heap[g]? = some (.cells #[.int .i64 0, .string ⟨#[]⟩, .bool false, .slice none 0 0, .int .i64 0, .int .i64 0, .bool false, .slice none 0 0] 26 (0, 0))
  | _, _, _, _ => True
theorem OfF.below {k : Nat} {bx : Array Value} {kd lo hi : Int} {lz : Bool} {j : Nat} {x : Value} {p : Option Nat} {w w' : World} (h : OfF k bx kd lo hi lz j x p w) (hb : Below w.heap.size w w') : OfF k bx kd lo hi lz j x p w' := by
  have e : ∀ {g : Nat} {o : Obj}, w.heap[g]? = some o → w'.heap[g]? = some o := fun hg => (hb.block _ (heap_lt hg)).trans hg
  match j, h with
  | 0, ⟨g, h1, h2⟩ => exact ⟨g, h1, e h2⟩
  | 1, h => exact h
  | 2, ⟨g, h1, h2⟩ => exact ⟨g, h1, e h2⟩
  | 3, h => exact h
  | 4, ⟨g, h1, h2⟩ => exact ⟨g, h1, e h2⟩
  | 5, h => exact h
  | 6, ⟨g, h1, h2⟩ => exact ⟨g, h1, e h2⟩
  | 7, h => exact h
  | 8, h => exact h
  | 9, h => exact h
  | 10, h => exact h
  | 11, ⟨g, h1, h2, h3⟩ => exact ⟨g, h1, e h2, h3⟩
  | 12, ⟨g, h1, h2, h3⟩ => exact ⟨g, h1, e h2, h3⟩
  | 13, ⟨g, g1, h1, h2, h3, h4, h5⟩ => exact ⟨g, g1, h1, e h2, h3, e h4, h5⟩
  | 14, ⟨g, g1, h1, h2, h3, h4, h5⟩ => exact ⟨g, g1, h1, e h2, h3, e h4, h5⟩
  | 15, ⟨g, h1, h2, h3⟩ => exact ⟨g, h1, h2, e h3⟩
  | n + 16, h => trivial
theorem OfF.fresh {k : Nat} {bx : Array Value} {kd lo hi : Int} {lz : Bool} {j : Nat} {x : Value} {w w' : World} (h : OfF k bx kd lo hi lz j x none w) (hj : j ≠ 15) (hb : Below w.heap.size w w') : OfF k bx kd lo hi lz j x (some w.heap.size) w' := by
  have e : ∀ {g : Nat} {o : Obj}, w.heap[g]? = some o → w'.heap[g]? = some o := fun hg => (hb.block _ (heap_lt hg)).trans hg
  have n : ∀ {g : Nat} {o : Obj}, w.heap[g]? = some o → some w.heap.size ≠ some g := fun hg he => by have := heap_lt hg; injection he with he; omega
  match j, h, hj with
  | 0, ⟨g, h1, h2⟩, _ => exact ⟨g, h1, e h2⟩
  | 1, h, _ => exact h
  | 2, ⟨g, h1, h2⟩, _ => exact ⟨g, h1, e h2⟩
  | 3, h, _ => exact h
  | 4, ⟨g, h1, h2⟩, _ => exact ⟨g, h1, e h2⟩
  | 5, h, _ => exact h
  | 6, ⟨g, h1, h2⟩, _ => exact ⟨g, h1, e h2⟩
  | 7, h, _ => exact h
  | 8, h, _ => exact h
  | 9, h, _ => exact h
  | 10, h, _ => exact h
  | 11, ⟨g, h1, h2, _⟩, _ => exact ⟨g, h1, e h2, n h2⟩
  | 12, ⟨g, h1, h2, _⟩, _ => exact ⟨g, h1, e h2, n h2⟩
  | 13, ⟨g, g1, h1, h2, _, h4, _⟩, _ => exact ⟨g, g1, h1, e h2, n h2, e h4, n h4⟩
  | 14, ⟨g, g1, h1, h2, _, h4, _⟩, _ => exact ⟨g, g1, h1, e h2, n h2, e h4, n h4⟩
  | 15, _, hj => exact absurd rfl hj
  | n + 16, _, _ => trivial
theorem set8_other {b c : Nat} (w : World) {u0 u1 u2 u3 u4 u5 u6 u7 : Value} (h : c ≠ b) : (set8 w b u0 u1 u2 u3 u4 u5 u6 u7).heap[c]? = w.heap[c]? := by
  unfold set8
  iterate 8 (rw [heap_setCell_other _ _ _ _ (by exact h)])
/- behind a step that leaves the world as it was -/
theorem oA_at {w : World} {g k : Nat} (hk : k < 4) (h : w.heap[g]? = some oA) : w.cell? ⟨g, k, none⟩ = some (.int .i64 (sgLo k)) := by
  unfold oA at h
  rw [Lib.cell_of_heap h]
  rcases (show k = 0 ∨ k = 1 ∨ k = 2 ∨ k = 3 by omega) with rfl | rfl | rfl | rfl <;> rfl
theorem oB_at {w : World} {g k : Nat} (hk : k < 4) (h : w.heap[g]? = some oB) : w.cell? ⟨g, k, none⟩ = some (.int .i64 (sgHi k)) := by
  unfold oB at h
  rw [Lib.cell_of_heap h]
  rcases (show k = 0 ∨ k = 1 ∨ k = 2 ∨ k = 3 by omega) with rfl | rfl | rfl | rfl <;> rfl
set_option maxHeartbeats 4000000 in
theorem often0 {s : Str} {x : Rx} {sign : Int} {lz bare : Bool} {k : Nat} (hk : k < 4) (HS : Hid (low sign 4 = (k : Int))) (hl : s.length ≤ 100) (hr : readM s = .ok x) (hd : x.deep < 16) (w : World) :
    Calls Try.prog 10 #[.string ⟨(s).toArray⟩, .bool bare, .int .i64 sign, .bool lz] w fun e w' => e = .returned (.bool true) ∧ Below w.heap.size w w' := by
  obtain ⟨sx, px⟩ := readM_small hr
  obtain ⟨r1, r2⟩ := read_often bare lz hk hl hr hd
  have hlo : (opS bare).length ≤ 3 := by cases bare <;> decide
  have hls : (sgS k).length ≤ 5 := by
    rcases (show k = 0 ∨ k = 1 ∨ k = 2 ∨ k = 3 by omega) with rfl | rfl | rfl | rfl <;> decide
  have hlz : (lzS lz).length ≤ 1 := by cases lz <;> decide
  have HX := Lib.hid (fun w => Read_ok w (by omega) hr)
  have HY := Lib.hid (readH r1 (by simp only [List.length_append, List.length_cons]; omega))
  have HZ := Lib.hid (readHno r2 (by simp only [List.length_append, List.length_cons, List.length_nil]; omega))
  have HSX := Lib.hid sx
  have dd : decide ((16 : Int) ≤ (x.deep : Int)) = false := decide_eq_false (by omega)
  have HOP : Hid (opS true = [40, 63, 58] ∧ opS false = [40] ∧ gk true = 6 ∧ gk false = 5) := Lib.hid ⟨rfl, rfl, rfl, rfl⟩
  clear hr r1 r2 sx
  go_enter Try.func10, Try.ntmps10
  go_wp2_with (go_at_call 13; refine (HX.out _).mono ?_)
  rintro e w1 ⟨hb1, cc1, rfl, hv1⟩
  obtain ⟨k1, c1, n1, r1, l1, h1, z1, s1, a1, d1, b1, g1, hx1, rfl⟩ := hv1.box
  have HV1 := Lib.hid hv1
  have HX1 := Lib.hid hx1
  clear hv1 hx1
  unfold rxc at HV1 ⊢
  have hz1 := hb1.size
  obtain ⟨wq, hwq⟩ : ∃ wq, wq = w1.alloc (.cells #[.int .i64 k1, .string ⟨(c1).toArray⟩, .bool n1, .slice a1 r1.length d1, .int .i64 l1, .int .i64 h1, .bool z1, .slice b1 s1.length g1] 26) := ⟨_, rfl⟩
  have hB1 : Below w1.heap.size w1 wq := by rw [hwq]; exact (Below.refl _ _).alloc (Nat.le_refl _) _
  have q1 : wq.heap[w1.heap.size]? = some (.cells #[.int .i64 k1, .string ⟨(c1).toArray⟩, .bool n1, .slice a1 r1.length d1, .int .i64 l1, .int .i64 h1, .bool z1, .slice b1 s1.length g1] 26 (0, 0)) := by rw [hwq]; exact heap_alloc_new w1 _
  have HQ := Lib.hid q1
  have HV := Lib.hid (HV1.out.later hB1)
  have hbq := bel2 hb1 hB1
  obtain ⟨x0, x1, x2, x3, x4, x5, x6, x7, x8⟩ := bx_cells q1
  clear q1 HV1 HX1
  subst hwq
  go_wp2_with (go_at_call 24; refine (Deep_any _ _ x (Nat.le_refl _) (by omega) _ _ HV.out).mono ?_)
  rintro e w2 ⟨rfl, hb2⟩
  clear x0 x1 x2 x3 x4 x5 x6 x7 x8
  have HQ2 := Lib.hid ((hb2.block _ (heap_lt HQ.out)).trans HQ.out)
  have HV2 := Lib.hid (HV.out.later hb2)
  have hbw2 := bel2 hbq hb2
  obtain ⟨x0, x1, x2, x3, x4, x5, x6, x7, x8⟩ := bx_cells HQ2.out
  clear HQ HV
  go_upto_if 37 with fail
  go_cut [11, 12] from 11 to 37 (fun a b wx => a = .string ⟨(opS bare).toArray⟩ ∧ b = .int .i64 (gk bare) ∧ wx = w2)
  case first =>
    cases bare with
    | true =>
      go_wp2_with fail
      go_meet
      exact ⟨by rw [HOP.out.1], by rw [HOP.out.2.2.1], rfl⟩
    | false =>
      go_wp2_with fail
      go_meet
      exact ⟨by rw [HOP.out.2.1], by rw [HOP.out.2.2.2], rfl⟩
  case rest =>
    obtain ⟨rfl, rfl, rfl⟩ := hcut
    go_wp2_with (go_at_call 21; refine (Low_any sign 4 _ (by decide) (by decide)).mono ?_)
    rintro e wl ⟨rfl, rfl⟩
    rw [HS.out]
    have ha := arr_s hk wc
    go_upto_region 11 with fail
    obtain ⟨ws, hws⟩ : ∃ ws, ws = wc.alloc (.cells #[.string ⟨#[42]⟩, .string ⟨#[43]⟩, .string ⟨#[63]⟩, .string ⟨#[123, 50, 44, 55, 125]⟩] 9) := ⟨_, rfl⟩
    have hbs : Below wc.heap.size wc ws := by rw [hws]; exact (Below.refl _ _).alloc (Nat.le_refl _) _
    have HQs := Lib.hid ((hbs.block _ (heap_lt HQ2.out)).trans HQ2.out)
    have HVs := Lib.hid (HV2.out.later hbs)
    have hbws := bel2 hbw2 hbs
    have hlts := heap_lt HQs.out
    rw [← hws]
    clear ha x0 x1 x2 x3 x4 x5 x6 x7 x8 hws hbs HQ2 HV2 hbw2 hb2
    go_cut [15] from 49 to 63 (fun p wx => WantAt ws x (gk bare) (sgLo k) (sgHi k) lz p wx)
    case first =>
      obtain ⟨x0, x1, x2, x3, x4, x5, x6, x7, x8⟩ := bx_cells HQs.out
      have hlo : ∀ h, ([.int .i64 0, .int .i64 1, .int .i64 0, .int .i64 2] : List Value)[k]'h = .int .i64 (sgLo k) := by
        intro h; rcases (show k = 0 ∨ k = 1 ∨ k = 2 ∨ k = 3 by omega) with rfl | rfl | rfl | rfl <;> rfl
      have hhi : ∀ h, ([.int .i64 (-1), .int .i64 (-1), .int .i64 1, .int .i64 7] : List Value)[k]'h = .int .i64 (sgHi k) := by
        intro h; rcases (show k = 0 ∨ k = 1 ∨ k = 2 ∨ k = 3 by omega) with rfl | rfl | rfl | rfl <;> rfl
      obtain ⟨BX, hBX⟩ : ∃ BX : Array Value, BX = #[.int .i64 k1, .string ⟨(c1).toArray⟩, .bool n1, .slice a1 r1.length d1, .int .i64 l1, .int .i64 h1, .bool z1, .slice b1 s1.length g1] := ⟨_, rfl⟩
      refine wp_region_relyA (by kernel_rfl) (by kernel_rfl) (fun A0 W0 L a w' => ∃ (V : Nat → Value) (p : Option Nat), a = putsL [49, 50, 51, 52, 53, 54, 55, 56, 57, 58, 59, 60, 61, 62, 63, 15] 0 V A0 ∧ Below W0.heap.size W0 w' ∧ ((L 15 = false → p = none) ∧ ∀ g, p = some g → W0.heap.size ≤ g) ∧ ∀ j, L j = true → OfF k BX (gk bare) (sgLo k) (sgHi k) lz j (V j) p w') ?_ ?_
      · obtain ⟨V, hV⟩ := putsL_own _ [49, 50, 51, 52, 53, 54, 55, 56, 57, 58, 59, 60, 61, 62, 63, 15]
        exact ⟨V, none, hV, (Below.refl _ _).drew, ⟨fun _ => rfl, fun g h => by cases h⟩, fun j h => by cases h⟩
      refine ⟨?_, ?_, ?_, ?_, ?_, ?_, ?_, ?_, ?_, ?_, ?_, ?_, ?_, ?_, ?_, ?_, ?_⟩
      · skip
        intro L a w' hL hd hI
        obtain ⟨V, p, rfl, hbb, hpp, H⟩ := hI
        simp [DepsOk, Region.binds] at hd
        simp only [putsL]
        go_wp2
        have hnb := (Below.refl w'.heap.size w').alloc (Nat.le_refl _)
        have hpf : p ≠ some w'.heap.size := by
          intro e
          cases h15 : L 15 with
          | false => rw [hpp.1 h15] at e; cases e
          | true =>
            obtain ⟨g5, _, h5, h6⟩ := H 15 h15
            rw [e] at h5; injection h5 with h5; have := heap_lt h6; omega
        refine ⟨upd V 0 (.slice (some ⟨w'.heap.size, 0, none⟩) 4 4), p, (by simp [upd, Act.put]), hbb.alloc hbb.size _, ⟨fun h => hpp.1 (by simpa using h), hpp.2⟩, upd_fact (F := fun j x w => OfF k BX (gk bare) (sgLo k) (sgHi k) lz j x p w) (F' := fun j x w => OfF k BX (gk bare) (sgLo k) (sgHi k) lz j x p w) H ⟨_, rfl, heap_alloc_new _ _⟩ fun j _ h => h.below (hnb _)⟩
      · skip
        intro L a w' hL hd hI
        obtain ⟨V, p, rfl, hbb, hpp, H⟩ := hI
        simp [DepsOk, Region.binds] at hd
        simp only [putsL]
        go_wp2
        refine ⟨upd V 1 (.int .i64 (k : Int)), p, (by simp [upd, Act.put]), hbb, ⟨fun h => hpp.1 (by simpa using h), hpp.2⟩, upd_fact (F := fun j x w => OfF k BX (gk bare) (sgLo k) (sgHi k) lz j x p w) (F' := fun j x w => OfF k BX (gk bare) (sgLo k) (sgHi k) lz j x p w) H rfl fun j _ h => h⟩
      · skip
        intro L a w' hL hd hI
        obtain ⟨V, p, rfl, hbb, hpp, H⟩ := hI
        simp [DepsOk, Region.binds] at hd
        simp only [putsL]
        obtain ⟨g, h0, hh⟩ := H 0 hd.1
        have h1 : V 1 = .int .i64 (k : Int) := H 1 hd.2
        go_wp2
        refine ⟨upd V 2 (.pointer (some ⟨g, k, none⟩)), p, (by simp [upd, Act.put]; exact ⟨h0.symm, h1.symm⟩), hbb, ⟨fun h => hpp.1 (by simpa using h), hpp.2⟩, upd_fact (F := fun j x w => OfF k BX (gk bare) (sgLo k) (sgHi k) lz j x p w) (F' := fun j x w => OfF k BX (gk bare) (sgLo k) (sgHi k) lz j x p w) H ⟨g, rfl, hh⟩ fun j _ h => h⟩
      · skip
        intro L a w' hL hd hI
        obtain ⟨V, p, rfl, hbb, hpp, H⟩ := hI
        simp [DepsOk, Region.binds] at hd
        simp only [putsL]
        obtain ⟨g, h0, hh⟩ := H 2 hd
        have hc := oA_at hk hh
        go_wp2
        refine ⟨upd V 3 (.int .i64 (sgLo k)), p, (by simp [upd, Act.put]; exact h0.symm), hbb, ⟨fun h => hpp.1 (by simpa using h), hpp.2⟩, upd_fact (F := fun j x w => OfF k BX (gk bare) (sgLo k) (sgHi k) lz j x p w) (F' := fun j x w => OfF k BX (gk bare) (sgLo k) (sgHi k) lz j x p w) H rfl fun j _ h => h⟩
      · skip
        intro L a w' hL hd hI
        obtain ⟨V, p, rfl, hbb, hpp, H⟩ := hI
        simp [DepsOk, Region.binds] at hd
        simp only [putsL]
        go_wp2
        have hnb := (Below.refl w'.heap.size w').alloc (Nat.le_refl _)
        have hpf : p ≠ some w'.heap.size := by
          intro e
          cases h15 : L 15 with
          | false => rw [hpp.1 h15] at e; cases e
          | true =>
            obtain ⟨g5, _, h5, h6⟩ := H 15 h15
            rw [e] at h5; injection h5 with h5; have := heap_lt h6; omega
        refine ⟨upd V 4 (.slice (some ⟨w'.heap.size, 0, none⟩) 4 4), p, (by simp [upd, Act.put]), hbb.alloc hbb.size _, ⟨fun h => hpp.1 (by simpa using h), hpp.2⟩, upd_fact (F := fun j x w => OfF k BX (gk bare) (sgLo k) (sgHi k) lz j x p w) (F' := fun j x w => OfF k BX (gk bare) (sgLo k) (sgHi k) lz j x p w) H ⟨_, rfl, heap_alloc_new _ _⟩ fun j _ h => h.below (hnb _)⟩
      · skip
        intro L a w' hL hd hI
        obtain ⟨V, p, rfl, hbb, hpp, H⟩ := hI
        simp [DepsOk, Region.binds] at hd
        simp only [putsL]
        go_wp2
        refine ⟨upd V 5 (.int .i64 (k : Int)), p, (by simp [upd, Act.put]), hbb, ⟨fun h => hpp.1 (by simpa using h), hpp.2⟩, upd_fact (F := fun j x w => OfF k BX (gk bare) (sgLo k) (sgHi k) lz j x p w) (F' := fun j x w => OfF k BX (gk bare) (sgLo k) (sgHi k) lz j x p w) H rfl fun j _ h => h⟩
      · skip
        intro L a w' hL hd hI
        obtain ⟨V, p, rfl, hbb, hpp, H⟩ := hI
        simp [DepsOk, Region.binds] at hd
        simp only [putsL]
        obtain ⟨g, h0, hh⟩ := H 4 hd.1
        have h1 : V 5 = .int .i64 (k : Int) := H 5 hd.2
        go_wp2
        refine ⟨upd V 6 (.pointer (some ⟨g, k, none⟩)), p, (by simp [upd, Act.put]; exact ⟨h0.symm, h1.symm⟩), hbb, ⟨fun h => hpp.1 (by simpa using h), hpp.2⟩, upd_fact (F := fun j x w => OfF k BX (gk bare) (sgLo k) (sgHi k) lz j x p w) (F' := fun j x w => OfF k BX (gk bare) (sgLo k) (sgHi k) lz j x p w) H ⟨g, rfl, hh⟩ fun j _ h => h⟩
      · skip
        intro L a w' hL hd hI
        obtain ⟨V, p, rfl, hbb, hpp, H⟩ := hI
        simp [DepsOk, Region.binds] at hd
        simp only [putsL]
        obtain ⟨g, h0, hh⟩ := H 6 hd
        have hc := oB_at hk hh
        go_wp2
        refine ⟨upd V 7 (.int .i64 (sgHi k)), p, (by simp [upd, Act.put]; exact h0.symm), hbb, ⟨fun h => hpp.1 (by simpa using h), hpp.2⟩, upd_fact (F := fun j x w => OfF k BX (gk bare) (sgLo k) (sgHi k) lz j x p w) (F' := fun j x w => OfF k BX (gk bare) (sgLo k) (sgHi k) lz j x p w) H rfl fun j _ h => h⟩
      · skip
        intro L a w' hL hd hI
        obtain ⟨V, p, rfl, hbb, hpp, H⟩ := hI
        simp [DepsOk, Region.binds] at hd
        simp only [putsL]
        go_wp2
        refine ⟨upd V 8 (.bool lz), p, (by simp [upd, Act.put]), hbb, ⟨fun h => hpp.1 (by simpa using h), hpp.2⟩, upd_fact (F := fun j x w => OfF k BX (gk bare) (sgLo k) (sgHi k) lz j x p w) (F' := fun j x w => OfF k BX (gk bare) (sgLo k) (sgHi k) lz j x p w) H rfl fun j _ h => h⟩
      · skip
        intro L a w' hL hd hI
        obtain ⟨V, p, rfl, hbb, hpp, H⟩ := hI
        simp [DepsOk, Region.binds] at hd
        simp only [putsL]
        go_wp2
        refine ⟨upd V 9 (.int .i64 (gk bare)), p, (by simp [upd, Act.put]), hbb, ⟨fun h => hpp.1 (by simpa using h), hpp.2⟩, upd_fact (F := fun j x w => OfF k BX (gk bare) (sgLo k) (sgHi k) lz j x p w) (F' := fun j x w => OfF k BX (gk bare) (sgLo k) (sgHi k) lz j x p w) H rfl fun j _ h => h⟩
      · skip
        intro L a w' hL hd hI
        obtain ⟨V, p, rfl, hbb, hpp, H⟩ := hI
        simp [DepsOk, Region.binds] at hd
        simp only [putsL]
        obtain ⟨y0, y1, y2, y3, y4, y5, y6, y7, y8⟩ := bx_cells ((hbb.block _ hlts).trans HQs.out)
        go_wp2
        refine ⟨upd V 10 (.agg #[.int .i64 k1, .string ⟨(c1).toArray⟩, .bool n1, .slice a1 r1.length d1, .int .i64 l1, .int .i64 h1, .bool z1, .slice b1 s1.length g1]), p, (by simp [upd, Act.put]), hbb, ⟨fun h => hpp.1 (by simpa using h), hpp.2⟩, upd_fact (F := fun j x w => OfF k BX (gk bare) (sgLo k) (sgHi k) lz j x p w) (F' := fun j x w => OfF k BX (gk bare) (sgLo k) (sgHi k) lz j x p w) H (congrArg Value.agg hBX.symm) fun j _ h => h⟩
      · skip
        intro L a w' hL hd hI
        obtain ⟨V, p, rfl, hbb, hpp, H⟩ := hI
        simp [DepsOk, Region.binds] at hd
        simp only [putsL]
        have h0 : V 10 = .agg #[.int .i64 k1, .string ⟨(c1).toArray⟩, .bool n1, .slice a1 r1.length d1, .int .i64 l1, .int .i64 h1, .bool z1, .slice b1 s1.length g1] := (H 10 hd).trans (congrArg Value.agg hBX)
        go_wp2
        have hnb := (Below.refl w'.heap.size w').alloc (Nat.le_refl _)
        have hpf : p ≠ some w'.heap.size := by
          intro e
          cases h15 : L 15 with
          | false => rw [hpp.1 h15] at e; cases e
          | true =>
            obtain ⟨g5, _, h5, h6⟩ := H 15 h15
            rw [e] at h5; injection h5 with h5; have := heap_lt h6; omega
        refine ⟨upd V 11 (.slice (some ⟨w'.heap.size, 0, none⟩) 1 1), p, (by simp [upd, Act.put]; exact h0.symm), hbb.alloc hbb.size _, ⟨fun h => hpp.1 (by simpa using h), hpp.2⟩, upd_fact (F := fun j x w => OfF k BX (gk bare) (sgLo k) (sgHi k) lz j x p w) (F' := fun j x w => OfF k BX (gk bare) (sgLo k) (sgHi k) lz j x p w) H ⟨_, rfl, by rw [hBX]; exact heap_alloc_new _ _, hpf⟩ fun j _ h => h.below (hnb _)⟩
      · skip
        intro L a w' hL hd hI
        obtain ⟨V, p, rfl, hbb, hpp, H⟩ := hI
        simp [DepsOk, Region.binds] at hd
        simp only [putsL]
        obtain ⟨g, h0, hh, hp⟩ := H 11 hd.2
        have h1 : V 9 = .int .i64 (gk bare) := H 9 hd.1
        go_wp2
        refine ⟨upd V 12 (.agg (grpC (gk bare) g)), p, (by simp [upd, Act.put]; exact ⟨h1.symm, h0.symm, rfl⟩), hbb, ⟨fun h => hpp.1 (by simpa using h), hpp.2⟩, upd_fact (F := fun j x w => OfF k BX (gk bare) (sgLo k) (sgHi k) lz j x p w) (F' := fun j x w => OfF k BX (gk bare) (sgLo k) (sgHi k) lz j x p w) H ⟨g, rfl, hh, hp⟩ fun j _ h => h⟩
      · skip
        intro L a w' hL hd hI
        obtain ⟨V, p, rfl, hbb, hpp, H⟩ := hI
        simp [DepsOk, Region.binds] at hd
        simp only [putsL]
        obtain ⟨g, h0, hh, hp⟩ := H 12 hd
        unfold grpC at h0
        go_wp2
        have hnb := (Below.refl w'.heap.size w').alloc (Nat.le_refl _)
        have hpf : p ≠ some w'.heap.size := by
          intro e
          cases h15 : L 15 with
          | false => rw [hpp.1 h15] at e; cases e
          | true =>
            obtain ⟨g5, _, h5, h6⟩ := H 15 h15
            rw [e] at h5; injection h5 with h5; have := heap_lt h6; omega
        refine ⟨upd V 13 (.slice (some ⟨w'.heap.size, 0, none⟩) 1 1), p, (by simp [upd, Act.put]; exact h0.symm), hbb.alloc hbb.size _, ⟨fun h => hpp.1 (by simpa using h), hpp.2⟩, upd_fact (F := fun j x w => OfF k BX (gk bare) (sgLo k) (sgHi k) lz j x p w) (F' := fun j x w => OfF k BX (gk bare) (sgLo k) (sgHi k) lz j x p w) H ⟨_, g, rfl, heap_alloc_new _ _, hpf, (hnb _).block _ (heap_lt hh) |>.trans hh, hp⟩ fun j _ h => h.below (hnb _)⟩
      · skip
        intro L a w' hL hd hI
        obtain ⟨V, p, rfl, hbb, hpp, H⟩ := hI
        simp [DepsOk, Region.binds] at hd
        simp only [putsL]
        obtain ⟨g, g1, h0, hh, hp, hh1, hp1⟩ := H 13 hd.2.2.2
        have h1 : V 3 = .int .i64 (sgLo k) := H 3 hd.1
        have h2 : V 7 = .int .i64 (sgHi k) := H 7 hd.2.1
        have h3 : V 8 = .bool lz := H 8 hd.2.2.1
        go_wp2
        refine ⟨upd V 14 (.agg (repC (sgLo k) (sgHi k) lz g)), p, (by simp [upd, Act.put]; exact ⟨h1.symm, h2.symm, h3.symm, h0.symm, rfl⟩), hbb, ⟨fun h => hpp.1 (by simpa using h), hpp.2⟩, upd_fact (F := fun j x w => OfF k BX (gk bare) (sgLo k) (sgHi k) lz j x p w) (F' := fun j x w => OfF k BX (gk bare) (sgLo k) (sgHi k) lz j x p w) H ⟨g, g1, rfl, hh, hp, hh1, hp1⟩ fun j _ h => h⟩
      · skip
        intro L a w' hL hd hI
        obtain ⟨V, p, rfl, hbb, hpp, H⟩ := hI
        simp [DepsOk, Region.binds] at hd
        simp only [putsL]
        obtain rfl := hpp.1 hL
        go_wp2
        refine ⟨upd V 15 (.pointer (some ⟨w'.heap.size, 0, none⟩)), (by simp [upd]), hbb.alloc hbb.size _, some w'.heap.size, ?_, ?_⟩
        · exact fun g e => by injection e with e; have := hbb.size; omega
        · intro j hj
          have hfin := upd_fact (F := fun j x w => OfF k BX (gk bare) (sgLo k) (sgHi k) lz j x none w) (F' := fun j x w => OfF k BX (gk bare) (sgLo k) (sgHi k) lz j x (some w'.heap.size) w) H (show OfF k BX (gk bare) (sgLo k) (sgHi k) lz 15 (.pointer (some ⟨w'.heap.size, 0, none⟩)) (some w'.heap.size) (w'.alloc (.cells #[.int .i64 0, .string ⟨#[]⟩, .bool false, .slice none 0 0, .int .i64 0, .int .i64 0, .bool false, .slice none 0 0] 26)) from ⟨w'.heap.size, rfl, rfl, heap_alloc_new _ _⟩) fun j hj h => h.fresh hj ((Below.refl _ _).alloc (Nat.le_refl _) _)
          rw [hBX] at hfin
          exact hfin j (by simpa using hj)
      · intro L a w' hd hI
        obtain ⟨V, p, rfl, hbb, hpp, H⟩ := hI
        simp [DepsOk, Region.binds] at hd
        simp only [putsL]
        obtain ⟨g15, h15, rfl, hz15⟩ := H 15 (by simp [hd])
        obtain ⟨g, g1, h0, hh, hp, hh1, hp1⟩ := H 14 (by simp [hd])
        unfold repC at h0
        obtain ⟨z0, z1, z2, z3, z4, z5, z6, z7, z8⟩ := bx_cells (c := []) hz15
        go_wp2
        go_meet
        have hbase := hpp.2 g15 rfl
        have h1 := set8_box (u0 := .int .i64 7) (u1 := .string ⟨#[]⟩) (u2 := .bool false) (u3 := .slice none 0 0) (u4 := .int .i64 (sgLo k)) (u5 := .int .i64 (sgHi k)) (u6 := .bool lz) (u7 := .slice (some ⟨g, 0, none⟩) 1 1) hz15
        have h2 := fun {b : Nat} {o : Obj} (hb : w'.heap[b]? = some o) (hne : some g15 ≠ some b) => (set8_other w' (b := g15) (c := b) (u0 := .int .i64 7) (u1 := .string ⟨#[]⟩) (u2 := .bool false) (u3 := .slice none 0 0) (u4 := .int .i64 (sgLo k)) (u5 := .int .i64 (sgHi k)) (u6 := .bool lz) (u7 := .slice (some ⟨g, 0, none⟩) 1 1) (fun e => hne (by rw [e]))).trans hb
        refine WantAt.of HVs.out (set8_below hbb hbase) hbase h1 (h2 hh hp) ?_
        have h3 := h2 hh1 hp1
        rw [hBX] at h3
        exact h3
    case rest =>
      obtain ⟨g, b, rfl, hg, hbw, hq, hv⟩ := hcut
      have HQW := Lib.hid hq
      have HVW := Lib.hid hv
      have hbwc := bel2 hbws hbw
      have HSW : Hid ((repR (sgLo k) (sgHi k) lz (grpR (gk bare) x)).small) := Lib.hid (small_want HSX.out)
      clear hq hv
      cases lz with
      | true => 
        skip
        go_wp2_with (go_at_call 13; refine (HY.out _ _ (by simp [lzS, opS, sgS])).mono ?_)
        rintro e w5 ⟨hb5, cc5, rfl, hv5⟩
        obtain ⟨k5, c5, n5, r5, l5, h5, z5, s5, a5, d5, b5, g5, hx5, rfl⟩ := hv5.box
        have HV5 := Lib.hid hv5
        have HX5 := Lib.hid hx5
        clear hv5 hx5
        unfold rxc at HV5 ⊢
        obtain ⟨w6, hw6⟩ : ∃ w6, w6 = w5.alloc (.cells #[.int .i64 k5, .string ⟨(c5).toArray⟩, .bool n5, .slice a5 r5.length d5, .int .i64 l5, .int .i64 h5, .bool z5, .slice b5 s5.length g5] 26) := ⟨_, rfl⟩
        have hB6 : Below w5.heap.size w5 w6 := by rw [hw6]; exact (Below.refl _ _).alloc (Nat.le_refl _) _
        have hq6 : w6.heap[w5.heap.size]? = some (.cells #[.int .i64 k5, .string ⟨(c5).toArray⟩, .bool n5, .slice a5 r5.length d5, .int .i64 l5, .int .i64 h5, .bool z5, .slice b5 s5.length g5] 26 (0, 0)) := by rw [hw6]; exact heap_alloc_new w5 _
        have HQ6 := Lib.hid hq6
        have HVY6 := Lib.hid (HV5.out.later hB6)
        have hb06 := bel2 hb5 hB6
        clear hq6
        subst hw6
        go_wp2_with (go_at_call 13; refine (HZ.out _ _ (by simp [lzS, opS, sgS])).mono ?_)
        rintro e w7 ⟨rfl, hb7⟩
        unfold rxv0
        have hB8 : Below w7.heap.size w7 (w7.alloc (.cells #[.int .i64 0, .string ⟨#[]⟩, .bool false, .slice none 0 0, .int .i64 0, .int .i64 0, .bool false, .slice none 0 0] 26)) := (Below.refl _ _).alloc (Nat.le_refl _) _
        have hb68 := bel2 hb7 hB8
        have hb08 := bel2 hb06 hb68
        obtain ⟨y0, y1, y2, y3, y4, y5, y6, y7, _⟩ := bx_cells ((hb68.block _ (heap_lt HQ6.out)).trans HQ6.out)
        have hqw := (hb08.block _ (heap_lt HQW.out)).trans HQW.out
        unfold repC at hqw
        obtain ⟨z0, z1, z2, z3, z4, z5, z6, z7, _⟩ := bx_cells (c := []) hqw
        have HVYX := Lib.hid (HVY6.out.later hb68)
        have HVWX := Lib.hid (HVW.out.later hb08)
        unfold repC at HVWX
        go_wp2_with (go_at_call 15; refine (Same_eq _ HSW.out HVYX.out HVWX.out).mono ?_)
        first | rintro e w9 rfl hb9 | rintro e w9 ⟨rfl, hb9⟩
        go_wp2_with (go_at_call 12; refine (awake_any _).mono ?_; rintro e wz ⟨rfl, hbz⟩)
        go_ret
        exact ⟨rfl, bel2 (bel2 hbwc (bel2 hb08 hb9)) hbz⟩
      | false =>
        skip
        go_wp2_with (go_at_call 13; refine (HY.out _ _ (by simp [lzS, opS, sgS])).mono ?_)
        rintro e w5 ⟨hb5, cc5, rfl, hv5⟩
        obtain ⟨k5, c5, n5, r5, l5, h5, z5, s5, a5, d5, b5, g5, hx5, rfl⟩ := hv5.box
        have HV5 := Lib.hid hv5
        have HX5 := Lib.hid hx5
        clear hv5 hx5
        unfold rxc at HV5 ⊢
        obtain ⟨w6, hw6⟩ : ∃ w6, w6 = w5.alloc (.cells #[.int .i64 k5, .string ⟨(c5).toArray⟩, .bool n5, .slice a5 r5.length d5, .int .i64 l5, .int .i64 h5, .bool z5, .slice b5 s5.length g5] 26) := ⟨_, rfl⟩
        have hB6 : Below w5.heap.size w5 w6 := by rw [hw6]; exact (Below.refl _ _).alloc (Nat.le_refl _) _
        have hq6 : w6.heap[w5.heap.size]? = some (.cells #[.int .i64 k5, .string ⟨(c5).toArray⟩, .bool n5, .slice a5 r5.length d5, .int .i64 l5, .int .i64 h5, .bool z5, .slice b5 s5.length g5] 26 (0, 0)) := by rw [hw6]; exact heap_alloc_new w5 _
        have HQ6 := Lib.hid hq6
        have HVY6 := Lib.hid (HV5.out.later hB6)
        have hb06 := bel2 hb5 hB6
        clear hq6
        subst hw6
        go_wp2_with (go_at_call 13; refine (HZ.out _ _ (by simp [lzS, opS, sgS])).mono ?_)
        rintro e w7 ⟨rfl, hb7⟩
        unfold rxv0
        have hB8 : Below w7.heap.size w7 (w7.alloc (.cells #[.int .i64 0, .string ⟨#[]⟩, .bool false, .slice none 0 0, .int .i64 0, .int .i64 0, .bool false, .slice none 0 0] 26)) := (Below.refl _ _).alloc (Nat.le_refl _) _
        have hb68 := bel2 hb7 hB8
        have hb08 := bel2 hb06 hb68
        obtain ⟨y0, y1, y2, y3, y4, y5, y6, y7, _⟩ := bx_cells ((hb68.block _ (heap_lt HQ6.out)).trans HQ6.out)
        have hqw := (hb08.block _ (heap_lt HQW.out)).trans HQW.out
        unfold repC at hqw
        obtain ⟨z0, z1, z2, z3, z4, z5, z6, z7, _⟩ := bx_cells (c := []) hqw
        have HVYX := Lib.hid (HVY6.out.later hb68)
        have HVWX := Lib.hid (HVW.out.later hb08)
        unfold repC at HVWX
        go_wp2_with (go_at_call 15; refine (Same_eq _ HSW.out HVYX.out HVWX.out).mono ?_)
        first | rintro e w9 rfl hb9 | rintro e w9 ⟨rfl, hb9⟩
        go_wp2_with (go_at_call 12; refine (awake_any _).mono ?_; rintro e wz ⟨rfl, hbz⟩)
        go_ret
        exact ⟨rfl, bel2 (bel2 hbwc (bel2 hb08 hb9)) hbz⟩
theorem low4 (n : Int) : ∃ k : Nat, k < 4 ∧ low n 4 = (k : Int) := by
  have h := low_lt n (n := 4) (by omega)
  exact ⟨(low n 4).toNat, by omega, by omega⟩
set_option maxHeartbeats 4000000 in
theorem ReadOften_walk (s : Str) (bare : Bool) (sign : Int) (lz : Bool) (w : World) (hs : s.length ≤ maxLen) :
    Calls Try.prog 10 #[.string ⟨(s).toArray⟩, .bool bare, .int .i64 sign, .bool lz] w fun e w' => e = .returned (.bool true) ∧ Below w.heap.size w w' := by
  unfold maxLen at hs
  by_cases h1 : s.length ≤ 100
  · cases hx : readM s with
    | error q =>
      have hq0 := readM_err hx
      have HX := Lib.hid (fun w => Read_no w (by omega) hx)
      have ne1 : (q != 0) = true := by simp [bne, hq0]
      clear hx
      go_enter Try.func10, Try.ntmps10
      go_wp2_with (go_at_call 13; refine (HX.out _).mono ?_)
      rintro e w1 ⟨rfl, hb1⟩
      unfold rxv0
      have hB1 : Below w1.heap.size w1 (w1.alloc (.cells #[.int .i64 0, .string ⟨#[]⟩, .bool false, .slice none 0 0, .int .i64 0, .int .i64 0, .bool false, .slice none 0 0] 26)) := (Below.refl _ _).alloc (Nat.le_refl _) _
      have hbq := bel2 hb1 hB1
      go_wp2_with (go_at_call 12; refine (awake_any _).mono ?_; rintro e wz ⟨rfl, hbz⟩)
      go_ret
      exact ⟨rfl, bel2 hbq hbz⟩
    | ok x =>
      by_cases hd : x.deep < 16
      · obtain ⟨k, hk, hlow⟩ := low4 sign
        exact often0 hk (Lib.hid hlow) h1 hx hd w
      · obtain ⟨sx, px⟩ := readM_small hx
        have HX := Lib.hid (fun w => Read_ok w (by omega) hx)
        have dd : decide ((16 : Int) ≤ (x.deep : Int)) = true := decide_eq_true (by omega)
        clear hx
        go_enter Try.func10, Try.ntmps10
        go_wp2_with (go_at_call 13; refine (HX.out _).mono ?_)
        rintro e w1 ⟨hb1, cc1, rfl, hv1⟩
        obtain ⟨k1, c1, n1, r1, l1, h1, z1, s1, a1, d1, b1, g1, hx1, rfl⟩ := hv1.box
        have HV1 := Lib.hid hv1
        have HX1 := Lib.hid hx1
        clear hv1 hx1
        unfold rxc at HV1 ⊢
        have hB1 : Below w1.heap.size w1 (w1.alloc (.cells #[.int .i64 k1, .string ⟨(c1).toArray⟩, .bool n1, .slice a1 r1.length d1, .int .i64 l1, .int .i64 h1, .bool z1, .slice b1 s1.length g1] 26)) := (Below.refl _ _).alloc (Nat.le_refl _) _
        have HV := Lib.hid (HV1.out.later hB1)
        have hbq := bel2 hb1 hB1
        obtain ⟨x0, x1, x2, x3, x4, x5, x6, x7, x8⟩ := bx_cells (heap_alloc_new w1 (.cells #[.int .i64 k1, .string ⟨(c1).toArray⟩, .bool n1, .slice a1 r1.length d1, .int .i64 l1, .int .i64 h1, .bool z1, .slice b1 s1.length g1] 26))
        go_wp2_with (go_at_call 24; refine (Deep_any _ _ x (Nat.le_refl _) (by omega) _ _ HV.out).mono ?_)
        first | rintro e w2 rfl hb2 | rintro e w2 ⟨rfl, hb2⟩
        have hbw2 := bel2 hbq hb2
        go_wp2_with (go_at_call 12; refine (awake_any _).mono ?_; rintro e wz ⟨rfl, hbz⟩)
        go_ret
        exact ⟨rfl, bel2 hbw2 hbz⟩
  · go_enter Try.func10, Try.ntmps10
    go_wp2_with (go_at_call 12; refine (awake_any _).mono ?_; rintro e w4 ⟨rfl, hb4⟩)
    all_goals first
      | (go_ret; exact ⟨rfl, hb4⟩)
      | (exfalso; omega)
end Go.Proofs.Ytpggnfpjjppbmaa
