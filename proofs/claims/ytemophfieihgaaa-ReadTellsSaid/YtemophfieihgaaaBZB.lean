/- walk of the document's Union -/
import Derived.Test.YtemophfieihgaaaBZD
import Derived.Test.YtemophfieihgaaaS8
import Derived.Test.YtemophfieihgaaaX9
import Derived.Test.YtemophfieihgaaaBZA
import Derived.IntWalk
set_option maxRecDepth 100000
namespace Go.Proofs.Ytemophfieihgaaa
open Go.RowKit
theorem rcells_app (a b : List Row) : rcells (a ++ b) = rcells a ++ rcells b := by simp [rcells]
theorem rcells_len2 (a : List Row) : (rcells a).length = a.length * 2 := rcells_length a
/-- A part of a row that is owned, read as a slice. -/
theorem own_part {w : World} {B g cap n : Nat} {X Y Z : List Row} (h : w.ownsRow B 47 2 (.slice (some ⟨g, 0, none⟩) n cap) n (rcells (X ++ (Y ++ Z)))) : Sl w w.heap.size (some ⟨g, X.length * 2, none⟩) 2 Y.length (rcells Y) := by
  refine ⟨rcells_length Y, fun _ => ⟨g, X.length * 2, rfl, (h.lt g rfl).2, fun j u hj => ?_⟩⟩
  have hn : n * 2 = (X.length + (Y.length + Z.length)) * 2 := by have := h.1; rw [rcells_length, List.length_append, List.length_append] at this; omega
  have hjl := (List.getElem?_eq_some_iff.1 hj).1
  rw [rcells_length] at hjl
  rw [h.cellAt _ (by omega), rcells_app, rcells_app, List.getElem?_append_right (by rw [rcells_length]; omega), rcells_length, show X.length * 2 + j - X.length * 2 = j by omega, List.getElem?_append_left (by rw [rcells_length]; omega)]
  exact hj
theorem own_take {w : World} {B g cap k : Nat} {s : List Row} (h : w.ownsRow B 47 2 (.slice (some ⟨g, 0, none⟩) s.length cap) s.length (rcells s)) (hk : k ≤ s.length) : Sl w w.heap.size (some ⟨g, 0, none⟩) 2 k (rcells (s.take k)) := by
  refine ⟨by rw [rcells_length, List.length_take]; omega, fun _ => ⟨g, 0, rfl, (h.lt g rfl).2, fun j u hj => ?_⟩⟩
  have hjl := (List.getElem?_eq_some_iff.1 hj).1
  rw [rcells_length, List.length_take] at hjl
  rw [h.cellAt _ (by omega), ← List.take_append_drop k s, rcells_app, List.getElem?_append_left (by rw [rcells_length, List.length_take]; omega), Nat.zero_add]
  exact hj
theorem own_drop {w : World} {B g cap k : Nat} {s : List Row} (h : w.ownsRow B 47 2 (.slice (some ⟨g, 0, none⟩) s.length cap) s.length (rcells s)) (hk : k ≤ s.length) : Sl w w.heap.size (some ⟨g, k * 2, none⟩) 2 (s.length - k) (rcells (s.drop k)) := by
  refine ⟨by rw [rcells_length, List.length_drop], fun _ => ⟨g, k * 2, rfl, (h.lt g rfl).2, fun j u hj => ?_⟩⟩
  have hjl := (List.getElem?_eq_some_iff.1 hj).1
  rw [rcells_length, List.length_drop] at hjl
  have e : rcells s = rcells (s.take k) ++ rcells (s.drop k) := by rw [← rcells_app, List.take_append_drop]
  rw [h.cellAt _ (by omega), e, List.getElem?_append_right (by rw [rcells_length, List.length_take]; omega), rcells_length, List.length_take, show k * 2 + j - min k s.length * 2 = j by omega]
  exact hj
theorem own_n {w : World} {B : Nat} {e : TypeId} {sz : Nat} {v : Value} {n m : Nat} {xs : List Value} (h : w.ownsRow B e sz v n xs) (hn : n = m) : w.ownsRow B e sz v m xs := hn ▸ h
theorem sl_nil0 {w : World} {B : Nat} {xs : List Value} (h : xs.length = 0) : Sl w B none 2 0 xs := ⟨by omega, fun h => absurd h (by omega)⟩
theorem sl_nil1 {w : World} {B : Nat} {a : Option Addr} {n : Nat} {xs : List Value} (h : xs.length = n * 2) (h0 : n = 0) : Sl w B a 2 n xs := ⟨h, fun hn => absurd hn (by omega)⟩
theorem own_empty {w : World} {B g : Nat} (hB : B ≤ g) (h : w.heap[g]? = some (.cells #[] 47 (0, 0))) : w.ownsRow B 47 2 (.slice (some ⟨g, 0, none⟩) 0 0) 0 (rcells []) :=
  ⟨rfl, .inr ⟨g, 0, #[], rfl, hB, h, Nat.le_refl _, by decide, rfl, rfl⟩⟩
theorem own_grownO {w w' : World} {B : Nat} {e : TypeId} {sz : Nat} {v : Value} {n : Nat} {xs : List Value} {row : Option Nat} (h : w.ownsRow B e sz v n xs) (hg : w.grownBy w' row) (hne : ∀ k, v.ownBlock = some k → row ≠ some k) : w'.ownsRow B e sz v n xs := by
  refine ⟨h.1, ?_⟩
  rcases h.2 with h0 | ⟨b, cap, cur, rfl, h1, h2, h3⟩
  · exact .inl h0
  · exact .inr ⟨b, cap, cur, rfl, h1, (hg.block b (heap_lt h2) (fun e => hne b rfl e.symm)).trans h2, h3⟩
def RU1Rel (rs : List Row) (w : World) (v q : Value) (wr : World) : Prop :=
  ∃ i : Nat, i ≤ rs.length ∧ q = .int .i64 i ∧ Below w.heap.size w wr ∧ wr.ownsRow w.heap.size 47 2 v (insL (rs.take i)).length (rcells (insL (rs.take i)))
/-- The place is looked for from behind. -/
def PosRel (s : List Row) (r : Row) (K : Nat) (w2 : World) (q : Value) (wr : World) : Prop := ∃ k : Nat, k ≤ s.length ∧ q = .int .i64 k ∧ Below w2.heap.size w2 wr ∧ Hid (posU s r k = K)
/-- The region that puts a row in: what is true of it all the while. -/
structure InJ (s : List Row) (r : Row) (K : Nat) (v A3 A10 : Value) (B : Nat) (L : Nat → Bool) (V : Nat → Value) (w : World) : Prop where
  p1 : L 1 = true → V 1 = v
  p2 : L 2 = true → V 2 = .int .i64 K
  p3 : L 3 = true → V 3 = A3
  p5 : L 5 = true → V 5 = .agg #[.string ⟨(r.1).toArray⟩, .string ⟨(r.2).toArray⟩]
  p8 : L 8 = true → V 8 = v
  p9 : L 9 = true → V 9 = .int .i64 K
  p10 : L 10 = true → V 10 = A10
  r0 : L 0 = true → L 4 = false → w.ownsRow B 47 2 (V 0) 0 (rcells [])
  r4 : L 4 = true → L 7 = false → w.ownsRow B 47 2 (V 4) K (rcells (s.take K))
  r7 : L 7 = true → L 11 = false → w.ownsRow B 47 2 (V 7) (K + 1) (rcells (s.take K ++ [r]))
  r11 : L 11 = true → w.ownsRow B 47 2 (V 11) (s.length + 1) (rcells (s.take K ++ [r] ++ s.drop K))
  c4 : L 4 = true → L 0 = true
  c7 : L 7 = true → L 4 = true ∧ L 6 = true
  c11 : L 11 = true → L 7 = true
  one : L 6 = true → L 7 = false → ∃ g, V 6 = .slice (some ⟨g, 0, none⟩) 1 1 ∧ B ≤ g ∧ w.heap[g]? = some (.cells #[.string ⟨(r.1).toArray⟩, .string ⟨(r.2).toArray⟩] 47 (0, 0)) ∧ (L 0 = true → L 4 = false → (V 0).ownBlock ≠ some g) ∧ (L 4 = true → (V 4).ownBlock ≠ some g)
theorem InJ.pure {s : List Row} {r : Row} {K : Nat} {v A3 A10 : Value} {B : Nat} {L : Nat → Bool} {V : Nat → Value} {w : World} {i : Nat} {x : Value} (H : InJ s r K v A3 A10 B L V w)
    (hx : (i = 1 ∧ x = v) ∨ (i = 2 ∧ x = .int .i64 K) ∨ (i = 3 ∧ x = A3) ∨ (i = 5 ∧ x = .agg #[.string ⟨(r.1).toArray⟩, .string ⟨(r.2).toArray⟩]) ∨ (i = 8 ∧ x = v) ∨ (i = 9 ∧ x = .int .i64 K) ∨ (i = 10 ∧ x = A10)) : InJ s r K v A3 A10 B (fun j => L j || j == i) (upd V i x) w := by
  rcases hx with ⟨rfl, rfl⟩ | ⟨rfl, rfl⟩ | ⟨rfl, rfl⟩ | ⟨rfl, rfl⟩ | ⟨rfl, rfl⟩ | ⟨rfl, rfl⟩ | ⟨rfl, rfl⟩ <;>
    exact {
      p1 := by have h := H.p1; revert h; simp [upd]
      p2 := by have h := H.p2; revert h; simp [upd]
      p3 := by have h := H.p3; revert h; simp [upd]
      p5 := by have h := H.p5; revert h; simp [upd]
      p8 := by have h := H.p8; revert h; simp [upd]
      p9 := by have h := H.p9; revert h; simp [upd]
      p10 := by have h := H.p10; revert h; simp [upd]
      r0 := by simpa [upd] using H.r0
      r4 := by simpa [upd] using H.r4
      r7 := by simpa [upd] using H.r7
      r11 := by simpa [upd] using H.r11
      c4 := by simpa [upd] using H.c4
      c7 := by simpa [upd] using H.c7
      c11 := by simpa [upd] using H.c11
      one := by simpa [upd] using H.one }
theorem InJ.made0 {s : List Row} {r : Row} {K : Nat} {v A3 A10 : Value} {B : Nat} {L : Nat → Bool} {V : Nat → Value} {w : World} (H : InJ s r K v A3 A10 B L V w) (hB : B ≤ w.heap.size) :
    InJ s r K v A3 A10 B (fun j => L j || j == 0) (upd V 0 (.slice (some ⟨w.heap.size, 0, none⟩) 0 0)) (w.alloc (.cells #[] 47)) := by
  have hb : Below w.heap.size w (w.alloc (.cells #[] 47)) := (Below.refl _ _).alloc (Nat.le_refl _) _
  exact {
    p1 := by simpa [upd] using H.p1
    p2 := by simpa [upd] using H.p2
    p3 := by simpa [upd] using H.p3
    p5 := by simpa [upd] using H.p5
    p8 := by simpa [upd] using H.p8
    p9 := by simpa [upd] using H.p9
    p10 := by simpa [upd] using H.p10
    r0 := fun _ _ => own_empty hB (heap_alloc_new _ _)
    r4 := fun h4 h7 => own_below (H.r4 (by simpa using h4) (by simpa using h7)) hb
    r7 := fun h7 h11 => own_below (H.r7 (by simpa using h7) (by simpa using h11)) hb
    r11 := fun h11 => own_below (H.r11 (by simpa using h11)) hb
    c4 := fun _ => by simp
    c7 := by simpa using H.c7
    c11 := by simpa using H.c11
    one := fun h6 h7 => by
      obtain ⟨g, e1, e2, e3, e4, e5⟩ := H.one (by simpa using h6) (by simpa using h7)
      refine ⟨g, by simpa [upd] using e1, e2, (hb.block _ (heap_lt e3)).trans e3, fun _ _ h => ?_, fun h4 => by simpa [upd] using e5 (by simpa using h4)⟩
      have : w.heap.size = g := by simpa [upd, Value.ownBlock] using h
      have := heap_lt e3; omega }
theorem InJ.made6 {s : List Row} {r : Row} {K : Nat} {v A3 A10 : Value} {B : Nat} {L : Nat → Bool} {V : Nat → Value} {w : World} (H : InJ s r K v A3 A10 B L V w) (hB : B ≤ w.heap.size) (hL : L 6 = false) :
    InJ s r K v A3 A10 B (fun j => L j || j == 6) (upd V 6 (.slice (some ⟨w.heap.size, 0, none⟩) 1 1)) (w.alloc (.cells #[.string ⟨(r.1).toArray⟩, .string ⟨(r.2).toArray⟩] 47)) := by
  have hb : Below w.heap.size w (w.alloc (.cells #[.string ⟨(r.1).toArray⟩, .string ⟨(r.2).toArray⟩] 47)) := (Below.refl _ _).alloc (Nat.le_refl _) _
  have h70 : L 7 = false := by
    cases h : L 7 with
    | false => rfl
    | true => rw [(H.c7 h).2] at hL; cases hL
  exact {
    p1 := by simpa [upd] using H.p1
    p2 := by simpa [upd] using H.p2
    p3 := by simpa [upd] using H.p3
    p5 := by simpa [upd] using H.p5
    p8 := by simpa [upd] using H.p8
    p9 := by simpa [upd] using H.p9
    p10 := by simpa [upd] using H.p10
    r0 := fun h0 h4 => own_below (H.r0 (by simpa using h0) (by simpa using h4)) hb
    r4 := fun h4 h7 => own_below (H.r4 (by simpa using h4) (by simpa using h7)) hb
    r7 := fun h7 h11 => own_below (H.r7 (by simpa using h7) (by simpa using h11)) hb
    r11 := fun h11 => own_below (H.r11 (by simpa using h11)) hb
    c4 := by simpa using H.c4
    c7 := fun h7 => by simp [h70] at h7
    c11 := by simpa using H.c11
    one := fun _ _ => ⟨w.heap.size, rfl, hB, heap_alloc_new _ _,
      fun h0 h4 e => by have := ((H.r0 (by simpa using h0) (by simpa using h4)).lt _ e).2; omega,
      fun h4 e => by have := ((H.r4 (by simpa using h4) h70).lt _ e).2; omega⟩ }
theorem InJ.app4 {s : List Row} {r : Row} {K : Nat} {v A3 A10 : Value} {B : Nat} {L : Nat → Bool} {V : Nat → Value} {w w4 : World} {x : Value} (H : InJ s r K v A3 A10 B L V w) (hL : L 4 = false) (h0 : L 0 = true)
    (ho : w4.ownsRow B 47 2 x K (rcells (s.take K))) (hg : w.grownBy w4 (V 0).ownBlock) (hmv : Moved w (V 0) x) :
    InJ s r K v A3 A10 B (fun j => L j || j == 4) (upd V 4 x) w4 := by
  have h70 : L 7 = false := by
    cases h : L 7 with
    | false => rfl
    | true => rw [(H.c7 h).1] at hL; cases hL
  have h110 : L 11 = false := by
    cases h : L 11 with
    | false => rfl
    | true => rw [H.c11 h] at h70; cases h70
  exact {
    p1 := by simpa [upd] using H.p1
    p2 := by simpa [upd] using H.p2
    p3 := by simpa [upd] using H.p3
    p5 := by simpa [upd] using H.p5
    p8 := by simpa [upd] using H.p8
    p9 := by simpa [upd] using H.p9
    p10 := by simpa [upd] using H.p10
    r0 := fun _ h4 => by simp at h4
    r4 := fun _ _ => ho
    r7 := fun h7 _ => by simp [h70] at h7
    r11 := fun h11 => by simp [h110] at h11
    c4 := fun _ => by simp [h0]
    c7 := fun h7 => by simp [h70] at h7
    c11 := by simpa using H.c11
    one := fun h6 h7 => by
      obtain ⟨g, e1, e2, e3, e4, _⟩ := H.one (by simpa using h6) (by simpa using h7)
      have e5 := e4 h0 hL
      refine ⟨g, by simpa [upd] using e1, e2, (hg.block g (heap_lt e3) (fun e => e5 e.symm)).trans e3, fun _ h4 => by simp at h4, fun _ h => ?_⟩
      have h : x.ownBlock = some g := by simpa [upd] using h
      rcases hmv with hm | hm
      · exact e5 (hm ▸ h)
      · have := hm g h; have := heap_lt e3; omega }
theorem InJ.app7 {s : List Row} {r : Row} {K : Nat} {v A3 A10 : Value} {B : Nat} {L : Nat → Bool} {V : Nat → Value} {w w4 : World} {x : Value} (H : InJ s r K v A3 A10 B L V w) (hL : L 7 = false) (h4 : L 4 = true) (h6 : L 6 = true)
    (ho : w4.ownsRow B 47 2 x (K + 1) (rcells (s.take K ++ [r]))) :
    InJ s r K v A3 A10 B (fun j => L j || j == 7) (upd V 7 x) w4 := by
  have h110 : L 11 = false := by
    cases h : L 11 with
    | false => rfl
    | true => rw [H.c11 h] at hL; cases hL
  exact {
    p1 := by simpa [upd] using H.p1
    p2 := by simpa [upd] using H.p2
    p3 := by simpa [upd] using H.p3
    p5 := by simpa [upd] using H.p5
    p8 := by simpa [upd] using H.p8
    p9 := by simpa [upd] using H.p9
    p10 := by simpa [upd] using H.p10
    r0 := fun _ h => by simp [h4] at h
    r4 := fun _ h => by simp at h
    r7 := fun _ _ => ho
    r11 := fun h11 => by simp [h110] at h11
    c4 := by simpa using H.c4
    c7 := fun _ => by simp [h4, h6]
    c11 := fun h => by simp
    one := fun _ h => by simp at h }
theorem InJ.app11 {s : List Row} {r : Row} {K : Nat} {v A3 A10 : Value} {B : Nat} {L : Nat → Bool} {V : Nat → Value} {w w4 : World} {x : Value} (H : InJ s r K v A3 A10 B L V w) (h7 : L 7 = true)
    (ho : w4.ownsRow B 47 2 x (s.length + 1) (rcells (s.take K ++ [r] ++ s.drop K))) :
    InJ s r K v A3 A10 B (fun j => L j || j == 11) (upd V 11 x) w4 :=
  have h4 := (H.c7 h7).1
  { p1 := by simpa [upd] using H.p1
    p2 := by simpa [upd] using H.p2
    p3 := by simpa [upd] using H.p3
    p5 := by simpa [upd] using H.p5
    p8 := by simpa [upd] using H.p8
    p9 := by simpa [upd] using H.p9
    p10 := by simpa [upd] using H.p10
    r0 := fun _ h => by simp [h4] at h
    r4 := fun _ h => by simp [h7] at h
    r7 := fun _ h => by simp at h
    r11 := fun _ => ho
    c4 := by simpa using H.c4
    c7 := by simpa using H.c7
    c11 := fun _ => by simp [h7]
    one := fun _ h => by simp [h7] at h }
set_option maxHeartbeats 4000000 in
theorem RUnion_any (a : Option Addr) (n c : Nat) (rs : List Row) (w : World) (h : Sl w w.heap.size a 2 n (rcells rs)) (hn : n ≤ 1000000) (hlen : ∀ r ∈ rs, r.1.length ≤ 1000000 ∧ r.2.length ≤ 1000000) :
    Calls Try.prog 51 #[.slice a n c] w fun e w' => UnionRes (unionM rs) w e w' := by
  obtain rfl := h.row_len
  obtain ⟨ir, hir⟩ := info_parts row_info
  obtain ⟨us, hus⟩ : ∃ us, unionM rs = us := ⟨_, rfl⟩
  rw [hus]
  have HUS0 := Lib.hid hus
  have HS := Lib.hid h
  have HLEN := Lib.hid hlen
  clear h hlen hus
  go_enter Try.func51, Try.ntmps51
  go_wp2
  go_loopw [3, 4] (fun v q wr => RU1Rel rs w v q wr) (fun _ q _ => rs.length - (intOf q).toNat)
  case atStart => exact ⟨0, by omega, rfl, Below.refl _ _, by rw [List.take_zero]; exact World.ownsRow_nil _ _ _ _⟩
  case round =>
    obtain ⟨i, hil, rfl, hb, hown⟩ := hrel
    have hB := hb.size
    cases hi : rs[i]? with
    | none =>
      have h2 : rs.length ≤ i := by simpa using hi
      obtain rfl : i = rs.length := by omega
      rw [List.take_length] at hown
      obtain ⟨ss, hss⟩ : ∃ ss, insL rs = ss := ⟨_, rfl⟩
      have hsl : ss.length ≤ rs.length := by rw [← hss]; exact insL_len rs
      rw [hss] at hown
      have HUS : Hid (mrgL ss = us) := Lib.hid (by rw [← HUS0.out, unionM_ins, hss])
      obtain ⟨va, vc, rfl⟩ := own_form hown
      have HSL : Hid (SlS wr (fun b => b < wr.heap.size) va 2 ss.length (rcells ss)) := Lib.hid ((own_slS hown).mono fun b _ h => h)
      obtain ⟨wf, hwf⟩ : ∃ wf : World, wf = wr := ⟨_, rfl⟩
      rw [← hwf] at HSL hb ⊢
      clear hown hi hss HUS0 HS HLEN hil h2 hwf hB
      go_wp2
      go_loopw [7, 8] (fun v q wr => U2Rel ss va w v q wr) (fun _ q _ => ss.length - (intOf q).toNat)
      case atStart => exact ⟨0, by omega, rfl, hb, by rw [List.take_zero]; exact World.ownsRow_nil _ _ _ _, HSL.out.mono fun b _ _ => by simp [Value.ownBlock]⟩
      case round =>
        clear hb
        obtain ⟨i, hil, rfl, hb, hown, hsl2⟩ := hrel
        have hB := hb.size
        cases hi : ss[i]? with
        | none =>
          have h2 : ss.length ≤ i := by simpa using hi
          obtain rfl : i = ss.length := by omega
          rw [List.take_length, HUS.out] at hown
          obtain ⟨xa, xc, rfl⟩ := own_form hown
          have HOWN := Lib.hid hown
          clear hown hsl2 HSL
          go_wp2
          go_ret
          exact ⟨xa, xc, rfl, own_slS HOWN.out, hb⟩
        | some r =>
          have hi2 := (List.getElem?_eq_some_iff.1 hi).1
          have hMT := mrgL_take hi
          have hml := mrgL_len (ss.take i)
          rw [List.length_take] at hml
          obtain ⟨b, o, rfl, hbB, c0, c1⟩ := hsl2.sl.row hi
          obtain ⟨rf, rt⟩ := r
          generalize hML : mrgL (ss.take i) = ml at *
          have HO1 := Lib.hid hown
          have HS1 := Lib.hid hsl2
          have HMT := Lib.hid hMT
          have gi0 : (0 : Int) ≤ (i : Int) := by omega
          have gi1 : (i : Int) < (ss.length : Int) := by omega
          have gi2 : ((i : Int)).toNat = i := by omega
          clear hMT hML hi hsl2
          rcases snoc_cases ml with rfl | ⟨B, q, rfl⟩
          · obtain ⟨xa, xc, rfl⟩ := own_form hown
            clear hown
            simp only [List.length_nil] at *
            go_wp2
            refine wp_region_ext (by kernel_rfl) (by kernel_rfl) ?_
            repeat (go_big_quiet_step ((fail)))
            refine wpQuiet_nil ?_
            rintro _ ⟨xq, rfl⟩
            have ho2 := own_below HO1.out xq.ext
            have hs2 := HS1.out.keep (Kept.all xq.ext)
            have hz1 := xq.ext.size
            have hbw1 := hb.trans (xq.ext.mono hB)
            have f0 := cell_kept xq.ext _ _ c0
            have f1 := cell_kept xq.ext _ _ c1
            clear c0 c1
            generalize xq.val = w1 at *
            have hb3 : Below w1.heap.size w1 (w1.alloc (.cells #[.string ⟨(rf).toArray⟩, .string ⟨(rt).toArray⟩] 47)) := (Below.refl _ _).alloc (Nat.le_refl _) _
            have HO3 := Lib.hid (own_below ho2 hb3)
            have HS3 := Lib.hid (hs2.keep (Kept.all hb3))
            have HLIT := Lib.hid (Sl.lit (n := 1) (sz := 2) (heap_alloc_new w1 (.cells #[.string ⟨(rf).toArray⟩, .string ⟨(rt).toArray⟩] 47)) rfl)
            have hz3 : w.heap.size ≤ (w1.alloc (.cells #[.string ⟨(rf).toArray⟩, .string ⟨(rt).toArray⟩] 47)).heap.size := by simp only [World.size_alloc]; omega
            have hbw3 := hbw1.alloc (by omega) (.cells #[.string ⟨(rf).toArray⟩, .string ⟨(rt).toArray⟩] 47)
            clear ho2 hs2
            go_wp2_with (at_builtin; refine wpList_appM w.heap.size 47 rfl _ _ 23 rfl Try.underlying23 hir rfl (by decide) rfl HO3.out rfl HLIT.out (rcells_one [(rf, rt)]) (by omega) (by omega) (by decide) hz3 ?_)
            intro v1 w4 ho4 hg4 hb4 hmv
            have hs4 := src_app HS3.out hg4 hmv
            have hb4' := hbw3.trans hb4
            have ho5 : w4.ownsRow w.heap.size 47 2 v1 (mrgL (ss.take (i + 1))).length (rcells (mrgL (ss.take (i + 1)))) := by
              exact (by rw [HMT.out, mrgS_nil]; exact ho4)
            clear ho4 hg4 hmv
            go_wp2
            go_roundw
            case rel => exact ⟨i + 1, by omega, by go_num, hb4', ho5, hs4⟩
            case measure => simp [intOf]; omega
          · rw [List.length_append, List.length_singleton] at hml
            have hnl : (B ++ [q]).length = B.length + 1 := by simp
            rw [hnl] at hown HO1
            rcases hown.2 with ⟨rfl, hn0⟩ | ⟨g, cap, cur, rfl, _, _, _, _, _, _⟩
            · exact absurd hn0 (by omega)
            obtain ⟨q1, q2⟩ := q
            obtain ⟨d0, d1, hfr⟩ := own_at HO1.out
            have hgw := (HO1.out.lt g rfl)
            have e0 : ∀ x : ExtOf wr, x.val.cell? ⟨b, o + i * 2, none⟩ = some (.string ⟨(rf).toArray⟩) := ExtOf.cell c0
            have e1 : ∀ x : ExtOf wr, x.val.cell? ⟨g, B.length * 2 + 1, none⟩ = some (.string ⟨(q2).toArray⟩) := ExtOf.cell d1
            have gk0 : (0 : Int) ≤ (B.length : Int) := by omega
            have gk1 : (B.length : Int) < (B.length : Int) + 1 := by omega
            have gk2 : ((B.length : Int)).toNat = B.length := by omega
            have gw : IntKind.i64.wrap ((B.length : Int) + 1 - 1) = (B.length : Int) := by rw [show (B.length : Int) + 1 - 1 = B.length by omega]; exact IntWalk.i64_in _ (by omega)
            have gw2 : IntKind.i64.wrap (B.length : Int) = (B.length : Int) := IntWalk.i64_in _ (by omega)
            cases hle : leS rf q2 with
            | true =>
              have HMT2 := Lib.hid (HMT.out.trans (mrgS_le (r := (rf, rt)) hle))
              clear hown HMT
              go_wp2
              refine wp_region_ext (by kernel_rfl) (by kernel_rfl) ?_
              repeat (go_big_quiet_step ((fail)))
              refine wpQuiet_nil ?_
              rintro _ ⟨xq, rfl⟩
              have ho2 := own_below HO1.out xq.ext
              have hs2 := HS1.out.keep (Kept.all xq.ext)
              have hz1 := xq.ext.size
              have hbw1 := hb.trans (xq.ext.mono hB)
              have f0 := cell_kept xq.ext _ _ c0
              have f1 := cell_kept xq.ext _ _ c1
              clear c0 c1 e0 e1 d0 d1 hfr
              generalize xq.val = w1 at *
              obtain ⟨m0, m1, mfr⟩ := own_at ho2
              have hmx := fun (w : World) (ts : Array TypeId) (t : TypeId) (x y : Str) => run_max_S (P := Try.prog) w ts t x y
              have HO5 := Lib.hid (own_setTo ho2 (mxS q2 rt))
              have HS5 := Lib.hid (hs2.keep (Kept.setLow (a := ⟨g, B.length * 2 + 1, none⟩) (.string ⟨(mxS q2 rt).toArray⟩) (fun b hb e => hb (by simp [Value.ownBlock, e]))))
              have HB5 : Hid (Below w.heap.size w (w1.setCell ⟨g, B.length * 2 + 1, none⟩ (.string ⟨(mxS q2 rt).toArray⟩))) := Lib.hid (hbw1.setCell hgw.1 _)
              clear ho2 hs2 hle
              go_wp2
              go_region
              go_wp2
              refine ⟨⟨i + 1, by omega, by go_num, ?_, ?_, ?_⟩, by simp [intOf]; omega⟩
              · first | exact HB5.out.drew | exact below_drew HB5.out | exact below_drewN HB5.out 1
              · have e5 : (mrgL (ss.take (i + 1))).length = B.length + 1 := by rw [HMT2.out]; simp
                rw [e5, HMT2.out]; exact HO5.out
              · exact HS5.out
            | false =>
              have HMF := Lib.hid (HMT.out.trans (mrgS_gt (r := (rf, rt)) hle))
              clear hown HMT
              go_wp2
              refine wp_region_ext (by kernel_rfl) (by kernel_rfl) ?_
              repeat (go_big_quiet_step ((fail)))
              refine wpQuiet_nil ?_
              rintro _ ⟨xq, rfl⟩
              have ho2 := own_below HO1.out xq.ext
              have hs2 := HS1.out.keep (Kept.all xq.ext)
              have hz1 := xq.ext.size
              have hbw1 := hb.trans (xq.ext.mono hB)
              have f0 := cell_kept xq.ext _ _ c0
              have f1 := cell_kept xq.ext _ _ c1
              clear c0 c1 e0 e1 d0 d1 hfr
              generalize xq.val = w1 at *
              have hb3 : Below w1.heap.size w1 (w1.alloc (.cells #[.string ⟨(rf).toArray⟩, .string ⟨(rt).toArray⟩] 47)) := (Below.refl _ _).alloc (Nat.le_refl _) _
              have HO3 := Lib.hid (own_below ho2 hb3)
              have HS3 := Lib.hid (hs2.keep (Kept.all hb3))
              have HLIT := Lib.hid (Sl.lit (n := 1) (sz := 2) (heap_alloc_new w1 (.cells #[.string ⟨(rf).toArray⟩, .string ⟨(rt).toArray⟩] 47)) rfl)
              have hz3 : w.heap.size ≤ (w1.alloc (.cells #[.string ⟨(rf).toArray⟩, .string ⟨(rt).toArray⟩] 47)).heap.size := by simp only [World.size_alloc]; omega
              have hbw3 := hbw1.alloc (by omega) (.cells #[.string ⟨(rf).toArray⟩, .string ⟨(rt).toArray⟩] 47)
              clear ho2 hs2
              go_wp2_with (at_builtin; refine wpList_appM w.heap.size 47 rfl _ _ 23 rfl Try.underlying23 hir rfl (by decide) rfl HO3.out rfl HLIT.out (rcells_one [(rf, rt)]) (by omega) (by omega) (by decide) hz3 ?_)
              intro v1 w4 ho4 hg4 hb4 hmv
              have hs4 := src_app HS3.out hg4 hmv
              have hb4' := hbw3.trans hb4
              have ho5 : w4.ownsRow w.heap.size 47 2 v1 (mrgL (ss.take (i + 1))).length (rcells (mrgL (ss.take (i + 1)))) := by
                exact (by rw [HMF.out, rcells_snoc, List.length_append, List.length_append]; exact ho4)
              clear ho4 hg4 hmv
              go_wp2
              go_roundw
              case rel => exact ⟨i + 1, by omega, by go_num, hb4', ho5, hs4⟩
              case measure => simp [intOf]; omega
    | some r =>
      have hi2 := (List.getElem?_eq_some_iff.1 hi).1
      have HIT := Lib.hid (insL_take hi)
      have hsl := insL_len (rs.take i)
      rw [List.length_take] at hsl
      obtain ⟨hr1, hr2⟩ := HLEN.out r (List.mem_of_getElem? hi)
      obtain ⟨rf, rt⟩ := r
      obtain ⟨b, o, rfl, hbB, c0, c1⟩ := (HS.out.keep hb).row hi
      generalize hSS : insL (rs.take i) = s at *
      have hb0 : Below wr.heap.size wr (wr.alloc (.cells #[.string ⟨(rf).toArray⟩, .string ⟨(rt).toArray⟩] 47)) := (Below.refl _ _).alloc (Nat.le_refl _) _
      have HBX := Lib.hid (heap_alloc_new wr (.cells #[.string ⟨(rf).toArray⟩, .string ⟨(rt).toArray⟩] 47))
      obtain ⟨w1, hw1⟩ : ∃ w1, w1 = wr.alloc (.cells #[.string ⟨(rf).toArray⟩, .string ⟨(rt).toArray⟩] 47) := ⟨_, rfl⟩
      rw [← hw1] at hb0 HBX
      have HOW := Lib.hid (own_below hown hb0)
      have hbw1 := hb.trans (hb0.mono hB)
      have e0 : w1.cell? ⟨wr.heap.size, 0, none⟩ = some (.string ⟨(rf).toArray⟩) := by rw [Lib.cell_of_heap HBX.out]; rfl
      have e1 : w1.cell? ⟨wr.heap.size, 1, none⟩ = some (.string ⟨(rt).toArray⟩) := by rw [Lib.cell_of_heap HBX.out]; rfl
      clear hi hSS hown
      subst hw1
      cases hp1 : properB rf with
      | false =>
        have HI2 : Hid (insL (rs.take (i + 1)) = s) := Lib.hid (by rw [HIT.out]; unfold rowB; rw [hp1]; rfl)
        clear HIT
        go_wp2_with (go_at_call 42; refine (RProper_any rf _ (by omega)).mono ?_)
        first | rintro e w2 rfl hb2 | rintro e w2 ⟨rfl, hb2⟩
        replace hb2 : Below (wr.alloc (.cells #[.string ⟨(rf).toArray⟩, .string ⟨(rt).toArray⟩] 47)).heap.size (wr.alloc (.cells #[.string ⟨(rf).toArray⟩, .string ⟨(rt).toArray⟩] 47)) w2 := hb2.mono (by simp)
        try rw [hp1]
        go_wp2
        go_roundw
        case rel => exact ⟨i + 1, by omega, by go_num, bel2 hbw1 hb2, by rw [HI2.out]; exact own_below HOW.out hb2⟩
        case measure => simp [intOf]; omega
      | true =>
        go_wp2_with (go_at_call 42; refine (RProper_any rf _ (by omega)).mono ?_)
        first | rintro e w2 rfl hb2 | rintro e w2 ⟨rfl, hb2⟩
        replace hb2 : Below (wr.alloc (.cells #[.string ⟨(rf).toArray⟩, .string ⟨(rt).toArray⟩] 47)).heap.size (wr.alloc (.cells #[.string ⟨(rf).toArray⟩, .string ⟨(rt).toArray⟩] 47)) w2 := hb2.mono (by simp)
        try rw [hp1]
        have e02 := cell_kept hb2 _ _ e0
        have e12 := cell_kept hb2 _ _ e1
        clear e0 e1
        cases hp2 : properB rt with
        | false =>
          have HI2 : Hid (insL (rs.take (i + 1)) = s) := Lib.hid (by rw [HIT.out]; unfold rowB; rw [hp1, hp2]; rfl)
          clear HIT
          go_wp2_with (go_at_call 42; refine (RProper_any rt _ (by omega)).mono ?_)
          first | rintro e w3 rfl hb3 | rintro e w3 ⟨rfl, hb3⟩
          try rw [hp2]
          have hb23 := bel2 hb2 hb3
          go_wp2
          go_roundw
          case rel => exact ⟨i + 1, by omega, by go_num, bel2 hbw1 hb23, by rw [HI2.out]; exact own_below HOW.out hb23⟩
          case measure => simp [intOf]; omega
        | true =>
          go_wp2_with (go_at_call 42; refine (RProper_any rt _ (by omega)).mono ?_)
          first | rintro e w3 rfl hb3 | rintro e w3 ⟨rfl, hb3⟩
          try rw [hp2]
          have hb23 := bel2 hb2 hb3
          have e0 := cell_kept hb3 _ _ e02
          have e1 := cell_kept hb3 _ _ e12
          clear e02 e12
          cases hlt : leS rf rt with
          | false =>
            have HI2 : Hid (insL (rs.take (i + 1)) = s) := Lib.hid (by rw [HIT.out]; unfold rowB; rw [hp1, hp2, hlt]; rfl)
            clear HIT
            go_wp2
            go_roundw
            case rel => exact ⟨i + 1, by omega, by go_num, bel2 hbw1 hb23, by rw [HI2.out]; exact own_below HOW.out hb23⟩
            case measure => simp [intOf]; omega
          | true =>
            obtain ⟨K, hK⟩ : ∃ K, posU s (rf, rt) s.length = K := ⟨_, rfl⟩
            have hKl : K ≤ s.length := by rw [← hK]; exact posU_le s (rf, rt) s.length
            have HI2 : Hid (insL (rs.take (i + 1)) = s.take K ++ [(rf, rt)] ++ s.drop K) := Lib.hid (by rw [HIT.out]; unfold rowB; rw [hp1, hp2, hlt]; simp only [Bool.true_and, if_true]; unfold insU; rw [hK])
            have HK0 := Lib.hid hK
            have HB3 : Hid (w3.heap[wr.heap.size]? = some (.cells #[.string ⟨(rf).toArray⟩, .string ⟨(rt).toArray⟩] 47 (0, 0))) := Lib.hid ((hb23.block _ (heap_lt HBX.out)).trans HBX.out)
            have HO3 := Lib.hid (own_below HOW.out hb23)
            have hbw3 := bel2 hbw1 hb23
            have hz3 : wr.heap.size < w3.heap.size := heap_lt HB3.out
            clear HIT hK HBX HOW hb2 hb3 hb23 hb0 hbw1 c0 c1
            obtain ⟨wo, rfl⟩ : ∃ wo : World, wo = wr := ⟨_, rfl⟩
            rcases HO3.out.2 with ⟨rfl, hn0⟩ | ⟨g, cap, cur, rfl, _, _, hcap, hcapm, _, _⟩
            · go_wp2
              go_loopw [6] (fun q w' => PosRel s (rf, rt) K w3 q w') (fun q _ => (intOf q).toNat)
              case atStart => exact ⟨s.length, Nat.le_refl _, congrArg (Value.int .i64) (by omega), Below.refl _ _, HK0⟩
              case round =>
                clear HK0
                obtain ⟨k, hk, rfl, hbk, HP⟩ := hrel
                obtain rfl : k = 0 := by omega
                obtain rfl : K = 0 := HP.out.symm
                have HOR := Lib.hid (own_below HO3.out hbk)
                have HBR := Lib.hid ((hbk.block _ (heap_lt HB3.out)).trans HB3.out)
                have hbwr := bel2 hbw3 hbk
                clear HP e0 e1
                go_upto_region 8 with fail
                go_cut [73] from 39 to 73 (fun v wx => v = .bool false ∧ Below wr.heap.size wr wx)
                case first =>
                  refine wp_region_ext (by kernel_rfl) (by kernel_rfl) ?_
                  repeat (go_big_quiet_step ((fail)))
                  refine wpQuiet_nil ?_
                  rintro _ ⟨xq, rfl⟩
                  go_wp2
                  go_meet
                  exact ⟨rfl, xq.ext⟩
                case rest =>
                  obtain ⟨rfl, hbc⟩ := hcut
                  go_wp2
                  have hbwc := bel2 hbwr hbc
                  have HBW := Lib.hid ((hbc.block _ (heap_lt HBR.out)).trans HBR.out)
                  have HOW := Lib.hid (own_below HOR.out hbc)
                  have hBw := hbwc.size
                  have hgw : wo.heap.size < wc.heap.size := heap_lt HBW.out
                  obtain ⟨W, hW⟩ : ∃ W, W = wc := ⟨_, rfl⟩
                  refine wp_region_relyA (by kernel_rfl) (by kernel_rfl) (fun A0 W0 L a w' => ∃ (V : Nat → Value), a = putsL [76, 77, 78, 79, 80, 81, 82, 83, 84, 85, 86, 87] 0 V A0 ∧ Below W0.heap.size W0 w' ∧ InJ s (rf, rt) 0 (.slice none 0 0) (.slice none 0 0) (.slice none 0 0) W0.heap.size L V w') ?_ ?_
                  · obtain ⟨V, hV⟩ := putsL_own _ [76, 77, 78, 79, 80, 81, 82, 83, 84, 85, 86, 87]
                    exact ⟨V, hV, (Below.refl _ _).drew, ⟨(fun h => by cases h), (fun h => by cases h), (fun h => by cases h), (fun h => by cases h), (fun h => by cases h), (fun h => by cases h), (fun h => by cases h), (fun h => by cases h), (fun h => by cases h), (fun h => by cases h), (fun h => by cases h), (fun h => by cases h), (fun h => by cases h), (fun h => by cases h), (fun h => by cases h)⟩⟩
                  refine ⟨?_, ?_, ?_, ?_, ?_, ?_, ?_, ?_, ?_, ?_, ?_, ?_, ?_⟩
                  · skip
                    intro L a w' hL hd hI
                    obtain ⟨V, rfl, hbb, hJ⟩ := hI
                    have HJ := Lib.hid hJ
                    clear hJ
                    simp [DepsOk, Region.binds] at hd
                    simp only [putsL]
                    go_wp2
                    refine ⟨upd V 0 (.slice (some ⟨w'.heap.size, 0, none⟩) 0 0), (by simp [upd, Act.put]), hbb.alloc hbb.size _, HJ.out.made0 hbb.size⟩
                  · skip
                    intro L a w' hL hd hI
                    obtain ⟨V, rfl, hbb, hJ⟩ := hI
                    have HJ := Lib.hid hJ
                    clear hJ
                    simp [DepsOk, Region.binds] at hd
                    simp only [putsL]
                    go_wp2
                    refine ⟨upd V 1 (.slice none 0 0), (by simp [upd, Act.put]), hbb, HJ.out.pure (.inl ⟨rfl, rfl⟩)⟩
                  · skip
                    intro L a w' hL hd hI
                    obtain ⟨V, rfl, hbb, hJ⟩ := hI
                    have HJ := Lib.hid hJ
                    clear hJ
                    simp [DepsOk, Region.binds] at hd
                    simp only [putsL]
                    go_wp2
                    refine ⟨upd V 2 (.int .i64 ((0 : Nat) : Int)), (by simp [upd, Act.put]), hbb, HJ.out.pure (.inr (.inl ⟨rfl, rfl⟩))⟩
                  · skip
                    intro L a w' hL hd hI
                    obtain ⟨V, rfl, hbb, hJ⟩ := hI
                    have HJ := Lib.hid hJ
                    clear hJ
                    simp [DepsOk, Region.binds] at hd
                    simp only [putsL]
                    have h1 := HJ.out.p1 hd.1
                    have h2 := HJ.out.p2 hd.2
                    go_wp2
                    refine ⟨upd V 3 (.slice none 0 0), (by simp [upd, Act.put]; exact ⟨h1.symm, h2.symm⟩), hbb, HJ.out.pure (.inr (.inr (.inl ⟨rfl, rfl⟩)))⟩
                  · skip
                    intro L a w' hL hd hI
                    obtain ⟨V, rfl, hbb, hJ⟩ := hI
                    have HJ := Lib.hid hJ
                    clear hJ
                    simp [DepsOk, Region.binds] at hd
                    simp only [putsL]
                    have h3 := HJ.out.p3 hd.2
                    have HR0 := Lib.hid (HJ.out.r0 hd.1 hL)
                    have HS3 := Lib.hid ((sl_nil0 (w := w') (B := w'.heap.size) (xs := rcells (s.take 0)) (by rw [rcells_length, List.length_take]; omega)))
                    have hz := hbb.size
                    refine wpList_appM wc.heap.size 47 rfl _ _ 23 rfl Try.underlying23 hir rfl (by decide) (by simp [Act.eval, Act.put]) HR0.out (Eq.trans (by simp [Act.eval, Act.put]) h3) HS3.out (rcells_one _) (by omega) (by omega) (by decide) hz ?_
                    intro v1 w4 ho1 hg1 hb1 hmv
                    have hJ4 := HJ.out.app4 hL hd.1 (by simpa [rcells] using ho1) hg1 hmv
                    go_wp2
                    exact ⟨upd V 4 v1, (by simp [upd, Act.put]), hbb.trans hb1, hJ4⟩
                  · skip
                    intro L a w' hL hd hI
                    obtain ⟨V, rfl, hbb, hJ⟩ := hI
                    have HJ := Lib.hid hJ
                    clear hJ
                    simp [DepsOk, Region.binds] at hd
                    simp only [putsL]
                    have hxb := (hbb.block _ hgw).trans HBW.out
                    have y0 : w'.cell? ⟨wo.heap.size, 0, none⟩ = some (.string ⟨(rf).toArray⟩) := by rw [Lib.cell_of_heap hxb]; rfl
                    have y1 : w'.cell? ⟨wo.heap.size, 1, none⟩ = some (.string ⟨(rt).toArray⟩) := by rw [Lib.cell_of_heap hxb]; rfl
                    go_wp2
                    refine ⟨upd V 5 (.agg #[.string ⟨(rf).toArray⟩, .string ⟨(rt).toArray⟩]), (by simp [upd, Act.put]), hbb, HJ.out.pure (.inr (.inr (.inr (.inl ⟨rfl, rfl⟩))))⟩
                  · skip
                    intro L a w' hL hd hI
                    obtain ⟨V, rfl, hbb, hJ⟩ := hI
                    have HJ := Lib.hid hJ
                    clear hJ
                    simp [DepsOk, Region.binds] at hd
                    simp only [putsL]
                    have h5 := HJ.out.p5 hd
                    go_wp2
                    exact ⟨upd V 6 (.slice (some ⟨w'.heap.size, 0, none⟩) 1 1), (by simp [upd, Act.put]; exact h5.symm), hbb.alloc hbb.size _, HJ.out.made6 hbb.size hL⟩
                  · skip
                    intro L a w' hL hd hI
                    obtain ⟨V, rfl, hbb, hJ⟩ := hI
                    have HJ := Lib.hid hJ
                    clear hJ
                    simp [DepsOk, Region.binds] at hd
                    simp only [putsL]
                    obtain ⟨g6, e6, hg6, hh6, _, _⟩ := HJ.out.one hd.2.1 hL
                    have HR4 := Lib.hid (HJ.out.r4 hd.1 hL)
                    have HS6 := Lib.hid (Sl.lit (n := 1) (sz := 2) hh6 rfl)
                    have hz := hbb.size
                    refine wpList_appM wc.heap.size 47 rfl _ _ 23 rfl Try.underlying23 hir rfl (by decide) (by simp [Act.eval, Act.put]) HR4.out (Eq.trans (by simp [Act.eval, Act.put]) e6) HS6.out (rcells_one [(rf, rt)]) (by omega) (by omega) (by decide) hz ?_
                    intro v1 w4 ho1 hg1 hb1 hmv
                    have hJ4 := HJ.out.app7 hL hd.1 hd.2.1 (by rw [rcells_app]; exact ho1)
                    go_wp2
                    exact ⟨upd V 7 v1, (by simp [upd]; exact e6.symm), hbb.trans hb1, hJ4⟩
                  · skip
                    intro L a w' hL hd hI
                    obtain ⟨V, rfl, hbb, hJ⟩ := hI
                    have HJ := Lib.hid hJ
                    clear hJ
                    simp [DepsOk, Region.binds] at hd
                    simp only [putsL]
                    go_wp2
                    refine ⟨upd V 8 (.slice none 0 0), (by simp [upd, Act.put]), hbb, HJ.out.pure (.inr (.inr (.inr (.inr (.inl ⟨rfl, rfl⟩)))))⟩
                  · skip
                    intro L a w' hL hd hI
                    obtain ⟨V, rfl, hbb, hJ⟩ := hI
                    have HJ := Lib.hid hJ
                    clear hJ
                    simp [DepsOk, Region.binds] at hd
                    simp only [putsL]
                    go_wp2
                    refine ⟨upd V 9 (.int .i64 ((0 : Nat) : Int)), (by simp [upd, Act.put]), hbb, HJ.out.pure (.inr (.inr (.inr (.inr (.inr (.inl ⟨rfl, rfl⟩))))))⟩
                  · skip
                    intro L a w' hL hd hI
                    obtain ⟨V, rfl, hbb, hJ⟩ := hI
                    have HJ := Lib.hid hJ
                    clear hJ
                    simp [DepsOk, Region.binds] at hd
                    simp only [putsL]
                    have h1 := HJ.out.p8 hd.1
                    have h2 := HJ.out.p9 hd.2
                    go_wp2
                    have hJ10 := HJ.out.pure (i := 10) (x := .slice none 0 0) (.inr (.inr (.inr (.inr (.inr (.inr ⟨rfl, rfl⟩))))))
                    refine ⟨upd V 10 (.slice none 0 0), ?_⟩
                    refine ⟨?_, (by first | exact hJ10 | exact ⟨hbb, hJ10⟩)⟩
                    first | (simp [upd, h1, h2]; done) | (simp [upd, Act.put, h1, h2]; done) | (simp [upd, Act.put]; exact ⟨h1.symm, h2.symm⟩) | (simp [upd]; exact ⟨h1.symm, h2.symm⟩)
                  · skip
                    intro L a w' hL hd hI
                    obtain ⟨V, rfl, hbb, hJ⟩ := hI
                    have HJ := Lib.hid hJ
                    clear hJ
                    simp [DepsOk, Region.binds] at hd
                    simp only [putsL]
                    have h10 := HJ.out.p10 hd.2.1
                    have HR7 := Lib.hid (HJ.out.r7 hd.1 hL)
                    have HS10 := Lib.hid ((sl_nil0 (w := w') (B := w'.heap.size) (xs := rcells (s.drop 0)) (by rw [rcells_length, List.length_drop]; omega)))
                    have hz := hbb.size
                    refine wpList_appM wc.heap.size 47 rfl _ _ 23 rfl Try.underlying23 hir rfl (by decide) (by simp [Act.eval, Act.put]) HR7.out (Eq.trans (by simp [Act.eval, Act.put]) h10) HS10.out (rcells_one _) (by omega) (by omega) (by decide) hz ?_
                    intro v1 w4 ho1 hg1 hb1 hmv
                    rw [← rcells_app (s.take 0 ++ [(rf, rt)])] at ho1
                    have hJ4 := HJ.out.app11 hd.1 (own_n ho1 (by omega))
                    go_wp2
                    exact ⟨upd V 11 v1, (by simp [upd, Act.put]), hbb.trans hb1, hJ4⟩
                  · intro L a w' hd hI
                    obtain ⟨V, rfl, hbb, hJ⟩ := hI
                    simp [DepsOk, Region.binds] at hd
                    have HR11 := Lib.hid (hJ.r11 (by simp [hd]))
                    clear hJ
                    simp only [putsL]
                    obtain ⟨v11, hv11⟩ : ∃ v11, V 11 = v11 := ⟨_, rfl⟩
                    rw [hv11] at HR11
                    have hz := hbb.size
                    have hlen : (s.take 0 ++ [(rf, rt)] ++ s.drop 0).length = s.length + 1 := by first | (simp; done) | (simp; omega)
                    have hfin : w'.ownsRow w.heap.size 47 2 v11 (s.take 0 ++ [(rf, rt)] ++ s.drop 0).length (rcells (s.take 0 ++ [(rf, rt)] ++ s.drop 0)) := by
                      rw [hlen]; exact ⟨HR11.out.1, HR11.out.2.imp id (fun ⟨g, cap, cur, h1, h2, h3⟩ => ⟨g, cap, cur, h1, by omega, h3⟩)⟩
                    have HFIN := Lib.hid hfin
                    clear hfin hlen
                    go_wp2
                    go_roundw
                    case rel => exact ⟨i + 1, by omega, by go_num, bel2 hbwc hbb, by rw [HI2.out]; exact HFIN.out⟩
                    case measure => simp [intOf]; omega
            · have hgb := (HO3.out.lt g rfl)
              go_wp2
              go_loopw [6] (fun q w' => PosRel s (rf, rt) K w3 q w') (fun q _ => (intOf q).toNat)
              case atStart => exact ⟨s.length, Nat.le_refl _, rfl, Below.refl _ _, HK0⟩
              case round =>
                clear HK0
                obtain ⟨k, hk, rfl, hbk, HP⟩ := hrel
                have HOR := Lib.hid (own_below HO3.out hbk)
                have HBR := Lib.hid ((hbk.block _ (heap_lt HB3.out)).trans HB3.out)
                have hbwr := bel2 hbw3 hbk
                obtain ⟨cnd, hcnd⟩ : ∃ cnd : Bool, cnd = (decide (0 < k) && ltU (rf, rt) (s.getD (k - 1) ([], []))) := ⟨_, rfl⟩
                have HC := Lib.hid hcnd
                have HCT : Hid ((cnd = true → 0 < k ∧ posU s (rf, rt) (k - 1) = K) ∧ (cnd = false → k = K)) := Lib.hid (by
                  rw [hcnd, ← HP.out]
                  cases k with
                  | zero => exact ⟨fun h => by simp at h, fun _ => rfl⟩
                  | succ k =>
                    have hq : s[k]? = some s[k] := List.getElem?_eq_getElem (by omega)
                    have hg : s.getD k ([], []) = s[k] := by rw [List.getD_eq_getElem?_getD, hq]; rfl
                    simp only [posU, hq, Nat.add_sub_cancel, hg]
                    cases hl : ltU (rf, rt) s[k] with
                    | true => exact ⟨fun _ => ⟨by omega, by rw [if_pos rfl]⟩, fun h => by simp at h⟩
                    | false => exact ⟨fun h => by simp at h, fun _ => by rw [if_neg (by simp)]⟩)
                clear hcnd HP
                go_upto_region 8 with fail
                go_cut [73] from 39 to 73 (fun v wx => v = .bool cnd ∧ Below wr.heap.size wr wx)
                case first =>
                  have d0 : ∀ x : ExtOf wr, x.val.cell? ⟨wo.heap.size, 0, none⟩ = some (.string ⟨(rf).toArray⟩) := ExtOf.cell (cell_kept hbk _ _ e0)
                  have d1 : ∀ x : ExtOf wr, x.val.cell? ⟨wo.heap.size, 1, none⟩ = some (.string ⟨(rt).toArray⟩) := ExtOf.cell (cell_kept hbk _ _ e1)
                  clear e0 e1 HCT
                  cases k with
                  | zero =>
                    have hcf : cnd = false := HC.out
                    subst hcf
                    refine wp_region_ext (by kernel_rfl) (by kernel_rfl) ?_
                    repeat (go_big_quiet_step ((fail)))
                    refine wpQuiet_nil ?_
                    rintro _ ⟨xq, rfl⟩
                    go_wp2
                    go_meet
                    exact ⟨rfl, xq.ext⟩
                  | succ k =>
                    obtain ⟨q, hq⟩ : ∃ q, s[k]? = some q := ⟨_, List.getElem?_eq_getElem (by omega)⟩
                    have hgd : s.getD k ([], []) = q := by rw [List.getD_eq_getElem?_getD, hq]; rfl
                    obtain ⟨q1, q2⟩ := q
                    obtain ⟨m0, m1⟩ := rcells_at hq
                    have d2 : ∀ x : ExtOf wr, x.val.cell? ⟨g, k * 2, none⟩ = some (.string ⟨(q1).toArray⟩) := ExtOf.cell (by rw [HOR.out.cellAt _ (by omega)]; exact m0)
                    have d3 : ∀ x : ExtOf wr, x.val.cell? ⟨g, k * 2 + 1, none⟩ = some (.string ⟨(q2).toArray⟩) := ExtOf.cell (by rw [HOR.out.cellAt _ (by omega)]; exact m1)
                    have gk0 : (0 : Int) ≤ (k : Int) := by omega
                    have gk1 : (k : Int) < (s.length : Int) := by omega
                    have gk2 : ((k : Int)).toNat = k := by omega
                    have gw : IntKind.i64.wrap ((k : Int) + 1 - 1) = (k : Int) := by rw [show (k : Int) + 1 - 1 = k by omega]; exact IntWalk.i64_in _ (by omega)
                    have gw2 : IntKind.i64.wrap (k : Int) = (k : Int) := IntWalk.i64_in _ (by omega)
                    have hcv : cnd = ltU (rf, rt) (q1, q2) := by rw [HC.out, Nat.add_sub_cancel, hgd]; simp
                    clear m0 m1 hq hgd HC
                    cases hl1 : Op.bytesLess rf q1 with
                    | true =>
                      have hcf : cnd = true := by rw [hcv]; unfold ltU; simp [hl1]
                      subst hcf
                      clear hcv
                      refine wp_region_ext (by kernel_rfl) (by kernel_rfl) ?_
                      repeat (go_big_quiet_step ((fail)))
                      refine wpQuiet_nil ?_
                      rintro _ ⟨xq, rfl⟩
                      go_wp2
                      go_meet
                      exact ⟨rfl, xq.ext⟩
                    | false =>
                      by_cases he : rf = q1
                      · subst he
                        cases hl2 : Op.bytesLess rt q2 with
                        | true =>
                          have hcf : cnd = true := by rw [hcv]; unfold ltU; simp [hl2]
                          subst hcf
                          clear hcv
                          refine wp_region_ext (by kernel_rfl) (by kernel_rfl) ?_
                          repeat (go_big_quiet_step ((fail)))
                          refine wpQuiet_nil ?_
                          rintro _ ⟨xq, rfl⟩
                          go_wp2
                          go_meet
                          exact ⟨rfl, xq.ext⟩
                        | false =>
                          have hcf : cnd = false := by rw [hcv]; unfold ltU; simp [hl1, hl2]
                          subst hcf
                          clear hcv
                          refine wp_region_ext (by kernel_rfl) (by kernel_rfl) ?_
                          repeat (go_big_quiet_step ((fail)))
                          refine wpQuiet_nil ?_
                          rintro _ ⟨xq, rfl⟩
                          go_wp2
                          go_meet
                          exact ⟨rfl, xq.ext⟩
                      · have hne : (rf == q1) = false := beq_eq_false_iff_ne.2 he
                        have hcf : cnd = false := by rw [hcv]; unfold ltU; simp [hl1, he]
                        subst hcf
                        clear hcv he
                        refine wp_region_ext (by kernel_rfl) (by kernel_rfl) ?_
                        repeat (go_big_quiet_step ((fail)))
                        refine wpQuiet_nil ?_
                        rintro _ ⟨xq, rfl⟩
                        go_wp2
                        go_meet
                        exact ⟨rfl, xq.ext⟩
                case rest =>
                  obtain ⟨rfl, hbc⟩ := hcut
                  cases cnd with
                  | true =>
                    obtain ⟨hk0, hkp⟩ := HCT.out.1 rfl
                    have HP2 := Lib.hid hkp
                    clear hkp
                    obtain ⟨j, rfl⟩ : ∃ j, k = j + 1 := ⟨k - 1, by omega⟩
                    have gw : IntKind.i64.wrap ((j : Int) + 1 - 1) = (j : Int) := by rw [show (j : Int) + 1 - 1 = j by omega]; exact IntWalk.i64_in _ (by omega)
                    go_wp2
                    go_roundw
                    case rel => exact ⟨j, by omega, by go_num, bel2 hbk hbc, HP2⟩
                    case measure => simp [intOf]
                  | false =>
                    obtain rfl := HCT.out.2 rfl
                    by_cases hkc : k = cap
                    · subst hkc
                      go_wp2
                      have hbwc := bel2 hbwr hbc
                      have HBW := Lib.hid ((hbc.block _ (heap_lt HBR.out)).trans HBR.out)
                      have HOW := Lib.hid (own_below HOR.out hbc)
                      have hBw := hbwc.size
                      have hgw : wo.heap.size < wc.heap.size := heap_lt HBW.out
                      obtain ⟨W, hW⟩ : ∃ W, W = wc := ⟨_, rfl⟩
                      refine wp_region_relyA (by kernel_rfl) (by kernel_rfl) (fun A0 W0 L a w' => ∃ (V : Nat → Value), a = putsL [76, 77, 78, 79, 80, 81, 82, 83, 84, 85, 86, 87] 0 V A0 ∧ Below W0.heap.size W0 w' ∧ InJ s (rf, rt) k (.slice (some ⟨g, 0, none⟩) s.length k) (.slice (some ⟨g, 0, none⟩) k k) (.slice (some ⟨g, 0, none⟩) 0 0) W0.heap.size L V w') ?_ ?_
                      · obtain ⟨V, hV⟩ := putsL_own _ [76, 77, 78, 79, 80, 81, 82, 83, 84, 85, 86, 87]
                        exact ⟨V, hV, (Below.refl _ _).drew, ⟨(fun h => by cases h), (fun h => by cases h), (fun h => by cases h), (fun h => by cases h), (fun h => by cases h), (fun h => by cases h), (fun h => by cases h), (fun h => by cases h), (fun h => by cases h), (fun h => by cases h), (fun h => by cases h), (fun h => by cases h), (fun h => by cases h), (fun h => by cases h), (fun h => by cases h)⟩⟩
                      refine ⟨?_, ?_, ?_, ?_, ?_, ?_, ?_, ?_, ?_, ?_, ?_, ?_, ?_⟩
                      · skip
                        intro L a w' hL hd hI
                        obtain ⟨V, rfl, hbb, hJ⟩ := hI
                        have HJ := Lib.hid hJ
                        clear hJ
                        simp [DepsOk, Region.binds] at hd
                        simp only [putsL]
                        go_wp2
                        refine ⟨upd V 0 (.slice (some ⟨w'.heap.size, 0, none⟩) 0 0), (by simp [upd, Act.put]), hbb.alloc hbb.size _, HJ.out.made0 hbb.size⟩
                      · skip
                        intro L a w' hL hd hI
                        obtain ⟨V, rfl, hbb, hJ⟩ := hI
                        have HJ := Lib.hid hJ
                        clear hJ
                        simp [DepsOk, Region.binds] at hd
                        simp only [putsL]
                        go_wp2
                        refine ⟨upd V 1 (.slice (some ⟨g, 0, none⟩) s.length k), (by simp [upd, Act.put]), hbb, HJ.out.pure (.inl ⟨rfl, rfl⟩)⟩
                      · skip
                        intro L a w' hL hd hI
                        obtain ⟨V, rfl, hbb, hJ⟩ := hI
                        have HJ := Lib.hid hJ
                        clear hJ
                        simp [DepsOk, Region.binds] at hd
                        simp only [putsL]
                        go_wp2
                        refine ⟨upd V 2 (.int .i64 ((k : Nat) : Int)), (by simp [upd, Act.put]), hbb, HJ.out.pure (.inr (.inl ⟨rfl, rfl⟩))⟩
                      · skip
                        intro L a w' hL hd hI
                        obtain ⟨V, rfl, hbb, hJ⟩ := hI
                        have HJ := Lib.hid hJ
                        clear hJ
                        simp [DepsOk, Region.binds] at hd
                        simp only [putsL]
                        have h1 := HJ.out.p1 hd.1
                        have h2 := HJ.out.p2 hd.2
                        go_wp2
                        refine ⟨upd V 3 (.slice (some ⟨g, 0, none⟩) k k), (by simp [upd, Act.put]; exact ⟨h1.symm, h2.symm⟩), hbb, HJ.out.pure (.inr (.inr (.inl ⟨rfl, rfl⟩)))⟩
                      · skip
                        intro L a w' hL hd hI
                        obtain ⟨V, rfl, hbb, hJ⟩ := hI
                        have HJ := Lib.hid hJ
                        clear hJ
                        simp [DepsOk, Region.binds] at hd
                        simp only [putsL]
                        have h3 := HJ.out.p3 hd.2
                        have HR0 := Lib.hid (HJ.out.r0 hd.1 hL)
                        have HS3 := Lib.hid (own_take (own_below HOW.out hbb) hk)
                        have hz := hbb.size
                        refine wpList_appM wc.heap.size 47 rfl _ _ 23 rfl Try.underlying23 hir rfl (by decide) (by simp [Act.eval, Act.put]) HR0.out (Eq.trans (by simp [Act.eval, Act.put]) h3) HS3.out (rcells_one _) (by omega) (by omega) (by decide) hz ?_
                        intro v1 w4 ho1 hg1 hb1 hmv
                        have hJ4 := HJ.out.app4 hL hd.1 (by simpa [rcells] using ho1) hg1 hmv
                        go_wp2
                        exact ⟨upd V 4 v1, (by simp [upd, Act.put]), hbb.trans hb1, hJ4⟩
                      · skip
                        intro L a w' hL hd hI
                        obtain ⟨V, rfl, hbb, hJ⟩ := hI
                        have HJ := Lib.hid hJ
                        clear hJ
                        simp [DepsOk, Region.binds] at hd
                        simp only [putsL]
                        have hxb := (hbb.block _ hgw).trans HBW.out
                        have y0 : w'.cell? ⟨wo.heap.size, 0, none⟩ = some (.string ⟨(rf).toArray⟩) := by rw [Lib.cell_of_heap hxb]; rfl
                        have y1 : w'.cell? ⟨wo.heap.size, 1, none⟩ = some (.string ⟨(rt).toArray⟩) := by rw [Lib.cell_of_heap hxb]; rfl
                        go_wp2
                        refine ⟨upd V 5 (.agg #[.string ⟨(rf).toArray⟩, .string ⟨(rt).toArray⟩]), (by simp [upd, Act.put]), hbb, HJ.out.pure (.inr (.inr (.inr (.inl ⟨rfl, rfl⟩))))⟩
                      · skip
                        intro L a w' hL hd hI
                        obtain ⟨V, rfl, hbb, hJ⟩ := hI
                        have HJ := Lib.hid hJ
                        clear hJ
                        simp [DepsOk, Region.binds] at hd
                        simp only [putsL]
                        have h5 := HJ.out.p5 hd
                        go_wp2
                        exact ⟨upd V 6 (.slice (some ⟨w'.heap.size, 0, none⟩) 1 1), (by simp [upd, Act.put]; exact h5.symm), hbb.alloc hbb.size _, HJ.out.made6 hbb.size hL⟩
                      · skip
                        intro L a w' hL hd hI
                        obtain ⟨V, rfl, hbb, hJ⟩ := hI
                        have HJ := Lib.hid hJ
                        clear hJ
                        simp [DepsOk, Region.binds] at hd
                        simp only [putsL]
                        obtain ⟨g6, e6, hg6, hh6, _, _⟩ := HJ.out.one hd.2.1 hL
                        have HR4 := Lib.hid (HJ.out.r4 hd.1 hL)
                        have HS6 := Lib.hid (Sl.lit (n := 1) (sz := 2) hh6 rfl)
                        have hz := hbb.size
                        refine wpList_appM wc.heap.size 47 rfl _ _ 23 rfl Try.underlying23 hir rfl (by decide) (by simp [Act.eval, Act.put]) HR4.out (Eq.trans (by simp [Act.eval, Act.put]) e6) HS6.out (rcells_one [(rf, rt)]) (by omega) (by omega) (by decide) hz ?_
                        intro v1 w4 ho1 hg1 hb1 hmv
                        have hJ4 := HJ.out.app7 hL hd.1 hd.2.1 (by rw [rcells_app]; exact ho1)
                        go_wp2
                        exact ⟨upd V 7 v1, (by simp [upd]; exact e6.symm), hbb.trans hb1, hJ4⟩
                      · skip
                        intro L a w' hL hd hI
                        obtain ⟨V, rfl, hbb, hJ⟩ := hI
                        have HJ := Lib.hid hJ
                        clear hJ
                        simp [DepsOk, Region.binds] at hd
                        simp only [putsL]
                        go_wp2
                        refine ⟨upd V 8 (.slice (some ⟨g, 0, none⟩) s.length k), (by simp [upd, Act.put]), hbb, HJ.out.pure (.inr (.inr (.inr (.inr (.inl ⟨rfl, rfl⟩)))))⟩
                      · skip
                        intro L a w' hL hd hI
                        obtain ⟨V, rfl, hbb, hJ⟩ := hI
                        have HJ := Lib.hid hJ
                        clear hJ
                        simp [DepsOk, Region.binds] at hd
                        simp only [putsL]
                        go_wp2
                        refine ⟨upd V 9 (.int .i64 ((k : Nat) : Int)), (by simp [upd, Act.put]), hbb, HJ.out.pure (.inr (.inr (.inr (.inr (.inr (.inl ⟨rfl, rfl⟩))))))⟩
                      · skip
                        intro L a w' hL hd hI
                        obtain ⟨V, rfl, hbb, hJ⟩ := hI
                        have HJ := Lib.hid hJ
                        clear hJ
                        simp [DepsOk, Region.binds] at hd
                        simp only [putsL]
                        have h1 := HJ.out.p8 hd.1
                        have h2 := HJ.out.p9 hd.2
                        go_wp2
                        have hJ10 := HJ.out.pure (i := 10) (x := .slice (some ⟨g, 0, none⟩) 0 0) (.inr (.inr (.inr (.inr (.inr (.inr ⟨rfl, rfl⟩))))))
                        refine ⟨upd V 10 (.slice (some ⟨g, 0, none⟩) 0 0), ?_⟩
                        refine ⟨?_, (by first | exact hJ10 | exact ⟨hbb, hJ10⟩)⟩
                        first | (simp [upd, h1, h2]; done) | (simp [upd, Act.put, h1, h2]; done) | (simp [upd, Act.put]; exact ⟨h1.symm, h2.symm⟩) | (simp [upd]; exact ⟨h1.symm, h2.symm⟩)
                      · skip
                        intro L a w' hL hd hI
                        obtain ⟨V, rfl, hbb, hJ⟩ := hI
                        have HJ := Lib.hid hJ
                        clear hJ
                        simp [DepsOk, Region.binds] at hd
                        simp only [putsL]
                        have h10 := HJ.out.p10 hd.2.1
                        have HR7 := Lib.hid (HJ.out.r7 hd.1 hL)
                        have HS10 := Lib.hid ((sl_nil1 (w := w') (B := w'.heap.size) (a := some ⟨g, 0, none⟩) (xs := rcells (s.drop k)) (n := 0) (by rw [rcells_length, List.length_drop]; omega) rfl))
                        have hz := hbb.size
                        refine wpList_appM wc.heap.size 47 rfl _ _ 23 rfl Try.underlying23 hir rfl (by decide) (by simp [Act.eval, Act.put]) HR7.out (Eq.trans (by simp [Act.eval, Act.put]) h10) HS10.out (rcells_one _) (by omega) (by omega) (by decide) hz ?_
                        intro v1 w4 ho1 hg1 hb1 hmv
                        rw [← rcells_app (s.take k ++ [(rf, rt)])] at ho1
                        have hJ4 := HJ.out.app11 hd.1 (own_n ho1 (by omega))
                        go_wp2
                        exact ⟨upd V 11 v1, (by simp [upd, Act.put]), hbb.trans hb1, hJ4⟩
                      · intro L a w' hd hI
                        obtain ⟨V, rfl, hbb, hJ⟩ := hI
                        simp [DepsOk, Region.binds] at hd
                        have HR11 := Lib.hid (hJ.r11 (by simp [hd]))
                        clear hJ
                        simp only [putsL]
                        obtain ⟨v11, hv11⟩ : ∃ v11, V 11 = v11 := ⟨_, rfl⟩
                        rw [hv11] at HR11
                        have hz := hbb.size
                        have hlen : (s.take k ++ [(rf, rt)] ++ s.drop k).length = s.length + 1 := by first | (simp; done) | (simp; omega)
                        have hfin : w'.ownsRow w.heap.size 47 2 v11 (s.take k ++ [(rf, rt)] ++ s.drop k).length (rcells (s.take k ++ [(rf, rt)] ++ s.drop k)) := by
                          rw [hlen]; exact ⟨HR11.out.1, HR11.out.2.imp id (fun ⟨g, cap, cur, h1, h2, h3⟩ => ⟨g, cap, cur, h1, by omega, h3⟩)⟩
                        have HFIN := Lib.hid hfin
                        clear hfin hlen
                        go_wp2
                        go_roundw
                        case rel => exact ⟨i + 1, by omega, by go_num, bel2 hbwc hbb, by rw [HI2.out]; exact HFIN.out⟩
                        case measure => simp [intOf]; omega
                    · go_wp2
                      have hbwc := bel2 hbwr hbc
                      have HBW := Lib.hid ((hbc.block _ (heap_lt HBR.out)).trans HBR.out)
                      have HOW := Lib.hid (own_below HOR.out hbc)
                      have hBw := hbwc.size
                      have hgw : wo.heap.size < wc.heap.size := heap_lt HBW.out
                      obtain ⟨W, hW⟩ : ∃ W, W = wc := ⟨_, rfl⟩
                      refine wp_region_relyA (by kernel_rfl) (by kernel_rfl) (fun A0 W0 L a w' => ∃ (V : Nat → Value), a = putsL [76, 77, 78, 79, 80, 81, 82, 83, 84, 85, 86, 87] 0 V A0 ∧ Below W0.heap.size W0 w' ∧ InJ s (rf, rt) k (.slice (some ⟨g, 0, none⟩) s.length cap) (.slice (some ⟨g, 0, none⟩) k cap) (.slice (some ⟨g, k * 2, none⟩) (s.length - k) (cap - k)) W0.heap.size L V w') ?_ ?_
                      · obtain ⟨V, hV⟩ := putsL_own _ [76, 77, 78, 79, 80, 81, 82, 83, 84, 85, 86, 87]
                        exact ⟨V, hV, (Below.refl _ _).drew, ⟨(fun h => by cases h), (fun h => by cases h), (fun h => by cases h), (fun h => by cases h), (fun h => by cases h), (fun h => by cases h), (fun h => by cases h), (fun h => by cases h), (fun h => by cases h), (fun h => by cases h), (fun h => by cases h), (fun h => by cases h), (fun h => by cases h), (fun h => by cases h), (fun h => by cases h)⟩⟩
                      refine ⟨?_, ?_, ?_, ?_, ?_, ?_, ?_, ?_, ?_, ?_, ?_, ?_, ?_⟩
                      · skip
                        intro L a w' hL hd hI
                        obtain ⟨V, rfl, hbb, hJ⟩ := hI
                        have HJ := Lib.hid hJ
                        clear hJ
                        simp [DepsOk, Region.binds] at hd
                        simp only [putsL]
                        go_wp2
                        refine ⟨upd V 0 (.slice (some ⟨w'.heap.size, 0, none⟩) 0 0), (by simp [upd, Act.put]), hbb.alloc hbb.size _, HJ.out.made0 hbb.size⟩
                      · skip
                        intro L a w' hL hd hI
                        obtain ⟨V, rfl, hbb, hJ⟩ := hI
                        have HJ := Lib.hid hJ
                        clear hJ
                        simp [DepsOk, Region.binds] at hd
                        simp only [putsL]
                        go_wp2
                        refine ⟨upd V 1 (.slice (some ⟨g, 0, none⟩) s.length cap), (by simp [upd, Act.put]), hbb, HJ.out.pure (.inl ⟨rfl, rfl⟩)⟩
                      · skip
                        intro L a w' hL hd hI
                        obtain ⟨V, rfl, hbb, hJ⟩ := hI
                        have HJ := Lib.hid hJ
                        clear hJ
                        simp [DepsOk, Region.binds] at hd
                        simp only [putsL]
                        go_wp2
                        refine ⟨upd V 2 (.int .i64 ((k : Nat) : Int)), (by simp [upd, Act.put]), hbb, HJ.out.pure (.inr (.inl ⟨rfl, rfl⟩))⟩
                      · skip
                        intro L a w' hL hd hI
                        obtain ⟨V, rfl, hbb, hJ⟩ := hI
                        have HJ := Lib.hid hJ
                        clear hJ
                        simp [DepsOk, Region.binds] at hd
                        simp only [putsL]
                        have h1 := HJ.out.p1 hd.1
                        have h2 := HJ.out.p2 hd.2
                        go_wp2
                        refine ⟨upd V 3 (.slice (some ⟨g, 0, none⟩) k cap), (by simp [upd, Act.put]; exact ⟨h1.symm, h2.symm⟩), hbb, HJ.out.pure (.inr (.inr (.inl ⟨rfl, rfl⟩)))⟩
                      · skip
                        intro L a w' hL hd hI
                        obtain ⟨V, rfl, hbb, hJ⟩ := hI
                        have HJ := Lib.hid hJ
                        clear hJ
                        simp [DepsOk, Region.binds] at hd
                        simp only [putsL]
                        have h3 := HJ.out.p3 hd.2
                        have HR0 := Lib.hid (HJ.out.r0 hd.1 hL)
                        have HS3 := Lib.hid (own_take (own_below HOW.out hbb) hk)
                        have hz := hbb.size
                        refine wpList_appM wc.heap.size 47 rfl _ _ 23 rfl Try.underlying23 hir rfl (by decide) (by simp [Act.eval, Act.put]) HR0.out (Eq.trans (by simp [Act.eval, Act.put]) h3) HS3.out (rcells_one _) (by omega) (by omega) (by decide) hz ?_
                        intro v1 w4 ho1 hg1 hb1 hmv
                        have hJ4 := HJ.out.app4 hL hd.1 (by simpa [rcells] using ho1) hg1 hmv
                        go_wp2
                        exact ⟨upd V 4 v1, (by simp [upd, Act.put]), hbb.trans hb1, hJ4⟩
                      · skip
                        intro L a w' hL hd hI
                        obtain ⟨V, rfl, hbb, hJ⟩ := hI
                        have HJ := Lib.hid hJ
                        clear hJ
                        simp [DepsOk, Region.binds] at hd
                        simp only [putsL]
                        have hxb := (hbb.block _ hgw).trans HBW.out
                        have y0 : w'.cell? ⟨wo.heap.size, 0, none⟩ = some (.string ⟨(rf).toArray⟩) := by rw [Lib.cell_of_heap hxb]; rfl
                        have y1 : w'.cell? ⟨wo.heap.size, 1, none⟩ = some (.string ⟨(rt).toArray⟩) := by rw [Lib.cell_of_heap hxb]; rfl
                        go_wp2
                        refine ⟨upd V 5 (.agg #[.string ⟨(rf).toArray⟩, .string ⟨(rt).toArray⟩]), (by simp [upd, Act.put]), hbb, HJ.out.pure (.inr (.inr (.inr (.inl ⟨rfl, rfl⟩))))⟩
                      · skip
                        intro L a w' hL hd hI
                        obtain ⟨V, rfl, hbb, hJ⟩ := hI
                        have HJ := Lib.hid hJ
                        clear hJ
                        simp [DepsOk, Region.binds] at hd
                        simp only [putsL]
                        have h5 := HJ.out.p5 hd
                        go_wp2
                        exact ⟨upd V 6 (.slice (some ⟨w'.heap.size, 0, none⟩) 1 1), (by simp [upd, Act.put]; exact h5.symm), hbb.alloc hbb.size _, HJ.out.made6 hbb.size hL⟩
                      · skip
                        intro L a w' hL hd hI
                        obtain ⟨V, rfl, hbb, hJ⟩ := hI
                        have HJ := Lib.hid hJ
                        clear hJ
                        simp [DepsOk, Region.binds] at hd
                        simp only [putsL]
                        obtain ⟨g6, e6, hg6, hh6, _, _⟩ := HJ.out.one hd.2.1 hL
                        have HR4 := Lib.hid (HJ.out.r4 hd.1 hL)
                        have HS6 := Lib.hid (Sl.lit (n := 1) (sz := 2) hh6 rfl)
                        have hz := hbb.size
                        refine wpList_appM wc.heap.size 47 rfl _ _ 23 rfl Try.underlying23 hir rfl (by decide) (by simp [Act.eval, Act.put]) HR4.out (Eq.trans (by simp [Act.eval, Act.put]) e6) HS6.out (rcells_one [(rf, rt)]) (by omega) (by omega) (by decide) hz ?_
                        intro v1 w4 ho1 hg1 hb1 hmv
                        have hJ4 := HJ.out.app7 hL hd.1 hd.2.1 (by rw [rcells_app]; exact ho1)
                        go_wp2
                        exact ⟨upd V 7 v1, (by simp [upd]; exact e6.symm), hbb.trans hb1, hJ4⟩
                      · skip
                        intro L a w' hL hd hI
                        obtain ⟨V, rfl, hbb, hJ⟩ := hI
                        have HJ := Lib.hid hJ
                        clear hJ
                        simp [DepsOk, Region.binds] at hd
                        simp only [putsL]
                        go_wp2
                        refine ⟨upd V 8 (.slice (some ⟨g, 0, none⟩) s.length cap), (by simp [upd, Act.put]), hbb, HJ.out.pure (.inr (.inr (.inr (.inr (.inl ⟨rfl, rfl⟩)))))⟩
                      · skip
                        intro L a w' hL hd hI
                        obtain ⟨V, rfl, hbb, hJ⟩ := hI
                        have HJ := Lib.hid hJ
                        clear hJ
                        simp [DepsOk, Region.binds] at hd
                        simp only [putsL]
                        go_wp2
                        refine ⟨upd V 9 (.int .i64 ((k : Nat) : Int)), (by simp [upd, Act.put]), hbb, HJ.out.pure (.inr (.inr (.inr (.inr (.inr (.inl ⟨rfl, rfl⟩))))))⟩
                      · skip
                        intro L a w' hL hd hI
                        obtain ⟨V, rfl, hbb, hJ⟩ := hI
                        have HJ := Lib.hid hJ
                        clear hJ
                        simp [DepsOk, Region.binds] at hd
                        simp only [putsL]
                        have h1 := HJ.out.p8 hd.1
                        have h2 := HJ.out.p9 hd.2
                        go_wp2
                        have hJ10 := HJ.out.pure (i := 10) (x := .slice (some ⟨g, k * 2, none⟩) (s.length - k) (cap - k)) (.inr (.inr (.inr (.inr (.inr (.inr ⟨rfl, rfl⟩))))))
                        refine ⟨upd V 10 (.slice (some ⟨g, k * 2, none⟩) (s.length - k) (cap - k)), ?_⟩
                        refine ⟨?_, (by first | exact hJ10 | exact ⟨hbb, hJ10⟩)⟩
                        first | (simp [upd, h1, h2]; done) | (simp [upd, Act.put, h1, h2]; done) | (simp [upd, Act.put]; exact ⟨h1.symm, h2.symm⟩) | (simp [upd]; exact ⟨h1.symm, h2.symm⟩)
                      · skip
                        intro L a w' hL hd hI
                        obtain ⟨V, rfl, hbb, hJ⟩ := hI
                        have HJ := Lib.hid hJ
                        clear hJ
                        simp [DepsOk, Region.binds] at hd
                        simp only [putsL]
                        have h10 := HJ.out.p10 hd.2.1
                        have HR7 := Lib.hid (HJ.out.r7 hd.1 hL)
                        have HS10 := Lib.hid (own_drop (own_below HOW.out hbb) hk)
                        have hz := hbb.size
                        refine wpList_appM wc.heap.size 47 rfl _ _ 23 rfl Try.underlying23 hir rfl (by decide) (by simp [Act.eval, Act.put]) HR7.out (Eq.trans (by simp [Act.eval, Act.put]) h10) HS10.out (rcells_one _) (by omega) (by omega) (by decide) hz ?_
                        intro v1 w4 ho1 hg1 hb1 hmv
                        rw [← rcells_app (s.take k ++ [(rf, rt)])] at ho1
                        have hJ4 := HJ.out.app11 hd.1 (own_n ho1 (by omega))
                        go_wp2
                        exact ⟨upd V 11 v1, (by simp [upd, Act.put]), hbb.trans hb1, hJ4⟩
                      · intro L a w' hd hI
                        obtain ⟨V, rfl, hbb, hJ⟩ := hI
                        simp [DepsOk, Region.binds] at hd
                        have HR11 := Lib.hid (hJ.r11 (by simp [hd]))
                        clear hJ
                        simp only [putsL]
                        obtain ⟨v11, hv11⟩ : ∃ v11, V 11 = v11 := ⟨_, rfl⟩
                        rw [hv11] at HR11
                        have hz := hbb.size
                        have hlen : (s.take k ++ [(rf, rt)] ++ s.drop k).length = s.length + 1 := by first | (simp; done) | (simp; omega)
                        have hfin : w'.ownsRow w.heap.size 47 2 v11 (s.take k ++ [(rf, rt)] ++ s.drop k).length (rcells (s.take k ++ [(rf, rt)] ++ s.drop k)) := by
                          rw [hlen]; exact ⟨HR11.out.1, HR11.out.2.imp id (fun ⟨g, cap, cur, h1, h2, h3⟩ => ⟨g, cap, cur, h1, by omega, h3⟩)⟩
                        have HFIN := Lib.hid hfin
                        clear hfin hlen
                        go_wp2
                        go_roundw
                        case rel => exact ⟨i + 1, by omega, by go_num, bel2 hbwc hbb, by rw [HI2.out]; exact HFIN.out⟩
                        case measure => simp [intOf]; omega
end Go.Proofs.Ytemophfieihgaaa
set_option maxRecDepth 100000
namespace Go.Proofs.Ytemophfieihgaaa
open Go.RowKit
theorem classL_dash : ∀ (n : Nat) (rows : List Row), classL n rows [[45]] = none
  | 0, _ => rfl
  | 1, rows => by simp [classL, takeM, itemM]
  | n + 2, rows => by simp [classL, takeM, itemM]
def ZClsRel (g B L : Nat) (w2 : World) (R : Option (List Row × List Str)) (n : Nat) (v : Value) (wr : World) : Prop :=
  ∃ (rows : List Row) (r : List Str), wr.ownsRow B 47 2 v rows.length (rcells rows) ∧ Rd2 wr g r ∧ w2.grownBy wr (some g) ∧ rows.length + 4 * r.length ≤ L ∧ r.length < n ∧ (∀ q ∈ rows, q.1.length ≤ 1000000 ∧ q.2.length ≤ 1000000) ∧ Hid (classL n rows r = R)
set_option maxHeartbeats 2000000 in
theorem rclass_not {g : Nat} {r r0 : List Str} (w : World) (h : Rd2 w g r) (hng : takeM [94] r = some r0) :
    Calls Try.prog 40 #[.pointer (some ⟨g, 0, none⟩)] w fun e w' => ResQ g w.heap.size w (classM r) e w' := by
  obtain ⟨R, hR⟩ : ∃ R, classM r = R := ⟨_, rfl⟩
  rw [hR]
  unfold classM at hR
  obtain ⟨R0, hR0⟩ : ∃ R0, classL (r0.length + 1) [] r0 = R0 := ⟨_, rfl⟩
  simp only [hng, Option.isSome_some, Option.getD_some, hR0] at hR
  have HNG := Lib.hid hng
  have HR0 := Lib.hid hR0
  have HR := Lib.hid hR
  have hok0 := h.ok
  clear hng hR0 hR
  have hr0 : r0.length ≤ 200000 := by
    have e := takeM_some HNG.out
    have := hok0.2
    rw [e] at this; simp at this; omega
  clear hok0
  obtain ⟨w0, hw0⟩ : ∃ w0, w0 = w.alloc (.cells #[.int .i64 0, .string ⟨#[]⟩, .bool false, .slice none 0 0, .int .i64 0, .int .i64 0, .bool false, .slice none 0 0] 26) := ⟨_, rfl⟩
  obtain ⟨hb0, hz0, hby0⟩ := alloc1 w hw0
  have HRD := Lib.hid (h.later hb0)
  rw [hw0] at HRD
  have HW0 := Lib.hid hw0
  have HBY0 := Lib.hid hby0
  have hgg : w.grownBy w0 (some g) := grown_of_below hb0 _
  have hgr : g < w.heap.size := h.lt
  clear hw0 hby0 h
  go_enter Try.func40, Try.ntmps40
  go_wp2_with (go_at_call 25; refine (rtake_some _ HRD.out HNG.out).mono ?_)
  rintro e w1 ⟨rfl, hrd1, hq1⟩
  rw [← HW0.out] at hq1
  have hg1 := grown_trans hgg hq1
  have HBY1 := Lib.hid (box_grown HBY0.out hq1 (by omega))
  have hz1 := hq1.size
  clear HRD hq1
  obtain ⟨w2, hw2⟩ : ∃ w2, w2 = w1.alloc (.cells #[.int .i64 4, .string ⟨#[]⟩, .bool true, .slice none 0 0, .int .i64 0, .int .i64 0, .bool false, .slice none 0 0] 26) := ⟨_, rfl⟩
  obtain ⟨hb2, hz2e, hbx2⟩ := alloc1 w1 hw2
  have hz2 : w1.heap.size + 1 ≤ w2.heap.size := by omega
  clear hz2e
  have HRD2 := Lib.hid (hrd1.later hb2)
  have HBY2 := Lib.hid ((hb2.block _ (heap_lt HBY1.out)).trans HBY1.out)
  have HBX2 := Lib.hid hbx2
  have hg2 := grown_trans hg1 (grown_of_below hb2 (some g))
  clear hrd1 hbx2
  go_wp2_with fail
  rw [← hw2]
  clear hw2
  go_loopg [5] (r0.length + 1) (fun n v wr => ZClsRel g w2.heap.size (4 * r0.length) w2 R0 n v wr)
  case atStart => exact ⟨[], r0, World.ownsRow_nil _ _ _ _, HRD2.out, grown_refl _ _, by simp, by omega, by simp, HR0⟩
  case round =>
    clear HR0 HRD2
    obtain ⟨rows, r, hown, hrd, hg, hL, hn, hrl, HF⟩ := hrel
    obtain ⟨hok, hrlen⟩ := hrd.ok
    obtain ⟨n, rfl⟩ : ∃ n', gk = n' + 1 := ⟨gk - 1, by omega⟩
    have HRD := Lib.hid hrd
    have hzr := hg.size
    cases ht : takeM [93] r with
    | some r1 =>
      have HF2 : Hid (some (rows, r1) = R0) := Lib.hid (by rw [← HF.out]; simp only [classL, ht])
      have HT := Lib.hid ht
      have HOWN := Lib.hid hown
      have HRL := Lib.hid hrl
      clear HF ht hrd hown hrl hok
      go_wp2_with (go_at_call 25; refine (rtake_some _ HRD.out HT.out).mono ?_)
      rintro e w3 ⟨rfl, hrd3, hq3⟩
      have hgr3 := grown_trans hg hq3
      have hgw3 := grown_trans hg2 hgr3
      have hby3 := box_grown HBY2.out hgr3 (by omega)
      have hbx3 := box_grown HBX2.out hgr3 (by omega)
      have hown3 := own_grownG HOWN.out hq3 (by omega)
      obtain ⟨va, vc, rfl⟩ := own_form hown3
      have HUN := Lib.hid (RUnion_any va rows.length vc rows w3 (Sl.of_own hown3) (by omega) HRL.out)
      have HRD3 := Lib.hid hrd3
      have HBY3 := Lib.hid hby3
      have HBX3 := Lib.hid hbx3
      have hz3 := hgr3.size
      clear hrd3 hq3 hgr3 hby3 hbx3 hown3 HOWN HRL
      go_wp2_with (go_at_call 51; refine HUN.out.mono ?_)
      rintro e w4 hq4
      obtain ⟨ua, uc, rfl, hus, hb4⟩ := hq4
      have hgw4 := grown_trans hgw3 (grown_of_below hb4 (some g))
      have hby4 := (hb4.block _ (heap_lt HBY3.out)).trans HBY3.out
      have hbx4 := (hb4.block _ (heap_lt HBX3.out)).trans HBX3.out
      have HRD4 := Lib.hid (HRD3.out.later hb4)
      have HR2 : Hid (Except.ok (setR (unionM rows) true, r1) = R) := Lib.hid (by rw [← HR.out, ← HF2.out])
      have HR := HR2
      have hz4 := hb4.size
      obtain ⟨f0, f1, f2, f3, f4, f5, f6, f7, f8⟩ := bx_cells (c := []) hby4
      obtain ⟨e0, e1, e2, e3, e4, e5, e6, e7, e8⟩ := bx_cells (c := []) hbx4
      have HUS := Lib.hid (RxV.close (k := 4) (c := []) (ng := true) (lo := 0) (hi := 0) (lz := false) (rc := uc) (ka := none) (kc := 0) (ks := []) (hus.mono (S' := fun b => w.heap.size ≤ b ∧ b ≠ w.heap.size ∧ b ≠ w1.heap.size) fun x hx _ => by omega) ⟨[], SlS.none_ _ _ _ _, .nil⟩)
      clear hby4 hbx4 hus
      go_wp2
      refine bodyPost_ret (v := .tuple #[.agg #[.int .i64 4, .string ⟨([]).toArray⟩, .bool true, .slice ua (unionM rows).length uc, .int .i64 0, .int .i64 0, .bool false, .slice none ([] : List Rx).length 0], .int .i64 0]) (by simp [results, Try.results40, go_sem, f0, f1, f2, f3, f4, f5, f6, f7]) rfl ?_
      refine ⟨?_, ?_⟩
      · iterate 9 (refine grown_setNew ?_ (by first | omega | (simp; done) | (simp; omega)) _)
        exact hgw4
      rw [← HR.out]
      refine ⟨rxc 4 [] true ua (unionM rows).length uc 0 0 false none ([] : List Rx).length 0, rfl, RxV.mono (S := fun b => w.heap.size ≤ b ∧ b ≠ w.heap.size ∧ b ≠ w1.heap.size) (fun b hb _ => hb.1) ?_, ?_⟩
      · iterate 9 (refine RxV.keep (Kept.setLow _ (fun b hb => by have : w.heap.size ≤ b ∧ b ≠ w.heap.size ∧ b ≠ w1.heap.size := hb; first | omega | (simp; done) | (simp; omega))) ?_)
        exact HUS.out
      · iterate 9 (refine RdT.setHi ?_ (by first | omega | (simp; done) | (simp; omega)) _)
        exact HRD4.out
    | none =>
      have HT := Lib.hid ht
      cases hit : itemM r with
      | none =>
        have HF2 : Hid (none = R0) := Lib.hid (by rw [← HF.out]; simp only [classL, ht, hit])
        have HR2 : Hid (Except.error 10 = R) := Lib.hid (by rw [← HR.out, ← HF2.out])
        have HR := HR2
        have HIT := Lib.hid hit
        clear HF ht hit hrd hown hrl hok
        go_wp2_with (go_at_call 25; refine (rtake_no _ _ HRD.out HT.out).mono ?_)
        rintro e w3 ⟨rfl, hrd3, hq3⟩
        have hgr3 := grown_trans hg hq3
        have HRD3 := Lib.hid hrd3
        clear hrd3 hq3
        go_wp2_with (go_at_call 50; refine (ritem_any _ HRD3.out).mono ?_)
        rintro e w4 hq
        have hq4 := hq.1
        have hqe := hq.2
        rw [HIT.out] at hqe
        obtain ⟨s9, rfl⟩ : ∃ s : Str, e = .returned (.tuple #[.slice none 0 0, .string ⟨(s).toArray⟩, .bool false]) := hqe
        have hgr4 := grown_trans hgr3 hq4
        have hgw4 := grown_trans hg2 hgr4
        obtain ⟨f0, f1, f2, f3, f4, f5, f6, f7, f8⟩ := bx_cells (c := []) (box_grown HBY2.out hgr4 (by omega))
        clear hq hq4
        go_wp2
        refine bodyPost_ret (v := .tuple #[.agg #[.int .i64 0, .string ⟨([]).toArray⟩, .bool false, .slice none 0 0, .int .i64 0, .int .i64 0, .bool false, .slice none 0 0], .int .i64 10]) (by simp [results, Try.results40, go_sem, f0, f1, f2, f3, f4, f5, f6, f7]) rfl ?_
        refine ⟨?_, ?_⟩
        · iterate 8 (refine grown_setNew ?_ (by first | omega | (simp; done) | (simp; omega)) _)
          exact hgw4
        · rw [← HR.out]; rfl
      | some y =>
        obtain ⟨c, nm, r1⟩ := y
        obtain ⟨i1, i2, i3, i4, i5⟩ := item_facts hit hok
        have HIT := Lib.hid hit
        have HI4 := Lib.hid i4
        have HRL := Lib.hid hrl
        have HOWN := Lib.hid hown
        clear i4 hrl hown
        by_cases hnm : nm = []
        · subst hnm
          cases ht2 : takeM [45] r1 with
          | none =>
            have HF2 : Hid (classL n (rows ++ [(c, c)]) r1 = R0) := Lib.hid (by rw [← HF.out]; simp only [classL, ht, hit, ht2]; simp)
            have hne := (takeM_none_hd ht2 (by simp)).1
            obtain ⟨u, hu⟩ : ∃ u, hdS r1 = u := ⟨_, rfl⟩
            rw [hu] at hne
            have HU := Lib.hid hu
            clear HF ht hit hrd hok ht2 hu
            go_wp2_with (go_at_call 25; refine (rtake_no _ _ HRD.out HT.out).mono ?_)
            rintro e w3 ⟨rfl, hrd3, hq3⟩
            have hgr3 := grown_trans hg hq3
            have hown3 := own_grownG HOWN.out hq3 (by omega)
            have HRD3 := Lib.hid hrd3
            clear hrd3 hq3
            go_wp2_with (go_at_call 50; refine (ritem_any _ HRD3.out).mono ?_)
            rintro e w4 hq
            have hq4 := hq.1
            have hqe := hq.2
            rw [HIT.out] at hqe
            obtain ⟨hrd4, hqe⟩ := hqe
            rcases hqe with ⟨_, rfl⟩ | ⟨q, _⟩
            case inr => exact absurd rfl q
            have hgr4 := grown_trans hgr3 hq4
            have hown4 := own_grownG hown3 hq4 (by omega)
            have hlt4 := hown4.lt
            obtain ⟨va, vc, rfl⟩ := own_form hown4
            have hz4 := hgr4.size
            obtain ⟨w5, hw5⟩ : ∃ w5, w5 = w4.alloc (.cells #[.string ⟨(c).toArray⟩, .string ⟨(c).toArray⟩] 47) := ⟨_, rfl⟩
            obtain ⟨hb5, hz5e, hbr5⟩ := alloc1 w4 hw5
            have hz5 : w4.heap.size + 1 ≤ w5.heap.size := by omega
            have HOWN5 := Lib.hid (own_below hown4 hb5)
            have HRD5 := Lib.hid (hrd4.later hb5)
            have HBR5 := Lib.hid hbr5
            have hgr5 := grown_trans hgr4 (grown_of_below hb5 (some g))
            clear hq hq4 hrd4 hown3 hown4 hz5e hbr5 HRD3
            obtain ⟨ir, hir⟩ := info_parts row_info
            go_upto_region 10 with fail
            rw [← hw5]
            clear hw5
            have HSEE : Hid (∀ x : ExtOf w5, Calls Try.prog 22 #[.pointer (some ⟨g, 0, none⟩)] x.val fun e w' => e = .returned (.string ⟨(u).toArray⟩) ∧ Below x.val.heap.size x.val w') := Lib.hid fun x => (rsee_any _ (HRD5.out.later x.ext)).mono fun _ _ ⟨h1, h2⟩ => ⟨by rw [h1, HU.out], h2.below _⟩
            refine wp_region_ext (by kernel_rfl) (by kernel_rfl) ?_
            repeat (go_big_quiet_step ((go_at_call 22; exact ext_call (HSEE.out _))))
            refine wpQuiet_nil ?_
            rintro _ ⟨xq, rfl⟩
            have hrowq := (xq.ext.block _ (heap_lt HBR5.out)).trans HBR5.out
            have hownq := own_below HOWN5.out xq.ext
            have hrdq := HRD5.out.later xq.ext
            have hgrq := grown_trans hgr5 (grown_of_below xq.ext (some g))
            generalize xq.val = wq at *
            clear HSEE HU hne
            have hrc0 : (wq).cell? ⟨w4.heap.size, 0, none⟩ = some (.string ⟨(c).toArray⟩) := by rw [Lib.cell_of_heap hrowq]; rfl
            have hrc1 : (wq).cell? ⟨w4.heap.size, 1, none⟩ = some (.string ⟨(c).toArray⟩) := by rw [Lib.cell_of_heap hrowq]; rfl
            have hbn : Below (wq).heap.size (wq) ((wq).alloc (.cells #[.string ⟨(c).toArray⟩, .string ⟨(c).toArray⟩] 47)) := (Below.refl _ _).alloc (Nat.le_refl _) _
            have HO6 := Lib.hid (own_below hownq hbn)
            have hsl6 : Sl ((wq).alloc (.cells #[.string ⟨(c).toArray⟩, .string ⟨(c).toArray⟩] 47)) ((wq).alloc (.cells #[.string ⟨(c).toArray⟩, .string ⟨(c).toArray⟩] 47)).heap.size (some ⟨wq.heap.size, 0, none⟩) 2 1 (rcells [(c, c)]) := by
              rw [show wq.heap.size = (wq).heap.size from by first | rfl | simp [World.setCell]]; exact Sl.lit (n := 1) (sz := 2) (heap_alloc_new (wq) (.cells #[.string ⟨(c).toArray⟩, .string ⟨(c).toArray⟩] 47)) rfl
            have HSL6 := Lib.hid hsl6
            clear hsl6
            have HRD6 := Lib.hid (hrdq.later hbn)
            have hgr6 := grown_trans hgrq (grown_of_below hbn (some g))
            have hz6 := hgr6.size
            clear hrowq hownq hrdq hgrq hbn
            go_wp2_with (at_builtin; refine wpList_appM w2.heap.size 47 rfl _ _ 23 rfl Try.underlying23 hir rfl (by decide) rfl (HO6.out) rfl (HSL6.out) (rcells_one [(c, c)]) (by omega) (by omega) (by decide) hz6 ?_)
            intro v7 w7 hown7 hq7 hb7 _
            have hown8 : w7.ownsRow w2.heap.size 47 2 v7 (rows ++ [(c, c)]).length (rcells (rows ++ [(c, c)])) := by
              rw [List.length_append, show rcells (rows ++ [(c, c)]) = rcells rows ++ rcells [(c, c)] from by simp [rcells]]; exact hown7
            have hrd7 := HRD6.out.grownHi hq7 (fun k hk => by have := (hlt4 k hk).1; omega)
            have hgr7 : w2.grownBy w7 (some g) := cls_grown hgr6 hb7 (by omega)
            have hrl7 := rows_app (nm := [(c, c)]) HRL.out (by simp; omega)
            clear hown7 hq7 hb7
            go_wp2
            go_roundg n
            case measure => omega
            case rel => exact ⟨rows ++ [(c, c)], r1, hown8, hrd7, hgr7, by simp at *; omega, by simp at *; omega, hrl7, HF2⟩
          | some r2 =>
            have er1 := takeM_some ht2
            subst er1
            cases r2 with
            | nil =>
              have HF2 : Hid (classL n (rows ++ [(c, c)]) [[45]] = R0) := Lib.hid (by rw [← HF.out, classL_dash]; simp only [classL, ht, hit, ht2]; simp [takeM, itemM])
              clear HF ht hit hrd hok ht2
              go_wp2_with (go_at_call 25; refine (rtake_no _ _ HRD.out HT.out).mono ?_)
              rintro e w3 ⟨rfl, hrd3, hq3⟩
              have hgr3 := grown_trans hg hq3
              have hown3 := own_grownG HOWN.out hq3 (by omega)
              have HRD3 := Lib.hid hrd3
              clear hrd3 hq3
              go_wp2_with (go_at_call 50; refine (ritem_any _ HRD3.out).mono ?_)
              rintro e w4 hq
              have hq4 := hq.1
              have hqe := hq.2
              rw [HIT.out] at hqe
              obtain ⟨hrd4, hqe⟩ := hqe
              rcases hqe with ⟨_, rfl⟩ | ⟨q, _⟩
              case inr => exact absurd rfl q
              have hgr4 := grown_trans hgr3 hq4
              have hown4 := own_grownG hown3 hq4 (by omega)
              have hlt4 := hown4.lt
              obtain ⟨va, vc, rfl⟩ := own_form hown4
              have hz4 := hgr4.size
              obtain ⟨w5, hw5⟩ : ∃ w5, w5 = w4.alloc (.cells #[.string ⟨(c).toArray⟩, .string ⟨(c).toArray⟩] 47) := ⟨_, rfl⟩
              obtain ⟨hb5, hz5e, hbr5⟩ := alloc1 w4 hw5
              have hz5 : w4.heap.size + 1 ≤ w5.heap.size := by omega
              have HOWN5 := Lib.hid (own_below hown4 hb5)
              have HRD5 := Lib.hid (hrd4.later hb5)
              have HBR5 := Lib.hid hbr5
              have hgr5 := grown_trans hgr4 (grown_of_below hb5 (some g))
              clear hq hq4 hrd4 hown3 hown4 hz5e hbr5 HRD3
              obtain ⟨ir, hir⟩ := info_parts row_info
              go_upto_region 10 with fail
              rw [← hw5]
              clear hw5
              obtain ⟨la, lk, li, ln, l0, l1, l2, l3⟩ := HRD5.out.look0
              have HSEE : Hid (∀ x : ExtOf w5, Calls Try.prog 22 #[.pointer (some ⟨g, 0, none⟩)] x.val fun e w' => e = .returned (.string ⟨(([45] : Str)).toArray⟩) ∧ Below x.val.heap.size x.val w') := Lib.hid fun x => (rsee_any _ (HRD5.out.later x.ext)).mono fun _ _ ⟨h1, h2⟩ => ⟨by rw [h1]; rfl, h2.below _⟩
              have d0 : ∀ x : ExtOf w5, x.val.cell? ⟨g, 0, none⟩ = some (.slice la ln lk) := ExtOf.cell l0
              have d1 : ∀ x : ExtOf w5, x.val.cell? ⟨g, 1, none⟩ = some (.int .i64 li) := ExtOf.cell l1
              have gg : decide (li + 1 < ln) = false := by simp; omega
              have gg2 : decide ((li : Int) + 1 < (ln : Int)) = false := by simp; omega
              have gw : IntKind.i64.wrap ((li : Int) + 1) = (li : Int) + 1 := IntWalk.i64_in _ (by omega)
              clear l0 l1
              refine wp_region_ext (by kernel_rfl) (by kernel_rfl) ?_
              repeat (go_big_quiet_step ((go_at_call 22; exact ext_call (HSEE.out _))))
              refine wpQuiet_nil ?_
              rintro _ ⟨xq, rfl⟩
              have hrowq := (xq.ext.block _ (heap_lt HBR5.out)).trans HBR5.out
              have hownq := own_below HOWN5.out xq.ext
              have hrdq := HRD5.out.later xq.ext
              have hgrq := grown_trans hgr5 (grown_of_below xq.ext (some g))
              generalize xq.val = wq at *
              clear HSEE gg gg2 gw d0 d1
              have hrc0 : (wq).cell? ⟨w4.heap.size, 0, none⟩ = some (.string ⟨(c).toArray⟩) := by rw [Lib.cell_of_heap hrowq]; rfl
              have hrc1 : (wq).cell? ⟨w4.heap.size, 1, none⟩ = some (.string ⟨(c).toArray⟩) := by rw [Lib.cell_of_heap hrowq]; rfl
              have hbn : Below (wq).heap.size (wq) ((wq).alloc (.cells #[.string ⟨(c).toArray⟩, .string ⟨(c).toArray⟩] 47)) := (Below.refl _ _).alloc (Nat.le_refl _) _
              have HO6 := Lib.hid (own_below hownq hbn)
              have hsl6 : Sl ((wq).alloc (.cells #[.string ⟨(c).toArray⟩, .string ⟨(c).toArray⟩] 47)) ((wq).alloc (.cells #[.string ⟨(c).toArray⟩, .string ⟨(c).toArray⟩] 47)).heap.size (some ⟨wq.heap.size, 0, none⟩) 2 1 (rcells [(c, c)]) := by
                rw [show wq.heap.size = (wq).heap.size from by first | rfl | simp [World.setCell]]; exact Sl.lit (n := 1) (sz := 2) (heap_alloc_new (wq) (.cells #[.string ⟨(c).toArray⟩, .string ⟨(c).toArray⟩] 47)) rfl
              have HSL6 := Lib.hid hsl6
              clear hsl6
              have HRD6 := Lib.hid (hrdq.later hbn)
              have hgr6 := grown_trans hgrq (grown_of_below hbn (some g))
              have hz6 := hgr6.size
              clear hrowq hownq hrdq hgrq hbn
              go_wp2_with (at_builtin; refine wpList_appM w2.heap.size 47 rfl _ _ 23 rfl Try.underlying23 hir rfl (by decide) rfl (HO6.out) rfl (HSL6.out) (rcells_one [(c, c)]) (by omega) (by omega) (by decide) hz6 ?_)
              intro v7 w7 hown7 hq7 hb7 _
              have hown8 : w7.ownsRow w2.heap.size 47 2 v7 (rows ++ [(c, c)]).length (rcells (rows ++ [(c, c)])) := by
                rw [List.length_append, show rcells (rows ++ [(c, c)]) = rcells rows ++ rcells [(c, c)] from by simp [rcells]]; exact hown7
              have hrd7 := HRD6.out.grownHi hq7 (fun k hk => by have := (hlt4 k hk).1; omega)
              have hgr7 : w2.grownBy w7 (some g) := cls_grown hgr6 hb7 (by omega)
              have hrl7 := rows_app (nm := [(c, c)]) HRL.out (by simp; omega)
              clear hown7 hq7 hb7
              go_wp2
              go_roundg n
              case measure => omega
              case rel => exact ⟨rows ++ [(c, c)], ([[45]] : List Str), hown8, hrd7, hgr7, by simp at *; omega, by simp at *; omega, hrl7, HF2⟩
            | cons c3 r3 =>
              by_cases h93 : c3 = [93]
              · subst h93
                have HF2 : Hid (classL n (rows ++ [(c, c)]) ([45] :: [93] :: r3) = R0) := Lib.hid (by rw [← HF.out]; simp only [classL, ht, hit, ht2]; simp [takeM])
                clear HF ht hit hrd hok ht2
                go_wp2_with (go_at_call 25; refine (rtake_no _ _ HRD.out HT.out).mono ?_)
                rintro e w3 ⟨rfl, hrd3, hq3⟩
                have hgr3 := grown_trans hg hq3
                have hown3 := own_grownG HOWN.out hq3 (by omega)
                have HRD3 := Lib.hid hrd3
                clear hrd3 hq3
                go_wp2_with (go_at_call 50; refine (ritem_any _ HRD3.out).mono ?_)
                rintro e w4 hq
                have hq4 := hq.1
                have hqe := hq.2
                rw [HIT.out] at hqe
                obtain ⟨hrd4, hqe⟩ := hqe
                rcases hqe with ⟨_, rfl⟩ | ⟨q, _⟩
                case inr => exact absurd rfl q
                have hgr4 := grown_trans hgr3 hq4
                have hown4 := own_grownG hown3 hq4 (by omega)
                have hlt4 := hown4.lt
                obtain ⟨va, vc, rfl⟩ := own_form hown4
                have hz4 := hgr4.size
                obtain ⟨w5, hw5⟩ : ∃ w5, w5 = w4.alloc (.cells #[.string ⟨(c).toArray⟩, .string ⟨(c).toArray⟩] 47) := ⟨_, rfl⟩
                obtain ⟨hb5, hz5e, hbr5⟩ := alloc1 w4 hw5
                have hz5 : w4.heap.size + 1 ≤ w5.heap.size := by omega
                have HOWN5 := Lib.hid (own_below hown4 hb5)
                have HRD5 := Lib.hid (hrd4.later hb5)
                have HBR5 := Lib.hid hbr5
                have hgr5 := grown_trans hgr4 (grown_of_below hb5 (some g))
                clear hq hq4 hrd4 hown3 hown4 hz5e hbr5 HRD3
                obtain ⟨ir, hir⟩ := info_parts row_info
                go_upto_region 10 with fail
                rw [← hw5]
                clear hw5
                obtain ⟨lb, lo, lk, li, ln, l0, l1, l2, l3, l4⟩ := HRD5.out.look1
                have HSEE : Hid (∀ x : ExtOf w5, Calls Try.prog 22 #[.pointer (some ⟨g, 0, none⟩)] x.val fun e w' => e = .returned (.string ⟨(([45] : Str)).toArray⟩) ∧ Below x.val.heap.size x.val w') := Lib.hid fun x => (rsee_any _ (HRD5.out.later x.ext)).mono fun _ _ ⟨h1, h2⟩ => ⟨by rw [h1]; rfl, h2.below _⟩
                have d0 : ∀ x : ExtOf w5, x.val.cell? ⟨g, 0, none⟩ = some (.slice (some ⟨lb, lo, none⟩) ln lk) := ExtOf.cell l0
                have d1 : ∀ x : ExtOf w5, x.val.cell? ⟨g, 1, none⟩ = some (.int .i64 li) := ExtOf.cell l1
                have d2 : ∀ x : ExtOf w5, x.val.cell? ⟨lb, lo + (li + 1), none⟩ = some (.string ⟨([93]).toArray⟩) := ExtOf.cell l4
                have gg : decide (li + 1 < ln) = true := by simp; omega
                have gg2 : decide ((li : Int) + 1 < (ln : Int)) = true := by simp; omega
                have gn : ((li : Int) + 1).toNat = li + 1 := by omega
                have gn0 : (0 : Int) ≤ (li : Int) + 1 := by omega
                have gn1 : (li : Int) + 1 < (ln : Int) := by omega
                have gw : IntKind.i64.wrap ((li : Int) + 1) = (li : Int) + 1 := IntWalk.i64_in _ (by omega)
                clear l0 l1 l4
                refine wp_region_ext (by kernel_rfl) (by kernel_rfl) ?_
                repeat (go_big_quiet_step ((go_at_call 22; exact ext_call (HSEE.out _))))
                refine wpQuiet_nil ?_
                rintro _ ⟨xq, rfl⟩
                clear d0 d1 d2 gg gg2 gn gn0 gn1 gw
                have hrowq := (xq.ext.block _ (heap_lt HBR5.out)).trans HBR5.out
                have hownq := own_below HOWN5.out xq.ext
                have hrdq := HRD5.out.later xq.ext
                have hgrq := grown_trans hgr5 (grown_of_below xq.ext (some g))
                generalize xq.val = wq at *
                clear HSEE
                have hrc0 : (wq).cell? ⟨w4.heap.size, 0, none⟩ = some (.string ⟨(c).toArray⟩) := by rw [Lib.cell_of_heap hrowq]; rfl
                have hrc1 : (wq).cell? ⟨w4.heap.size, 1, none⟩ = some (.string ⟨(c).toArray⟩) := by rw [Lib.cell_of_heap hrowq]; rfl
                have hbn : Below (wq).heap.size (wq) ((wq).alloc (.cells #[.string ⟨(c).toArray⟩, .string ⟨(c).toArray⟩] 47)) := (Below.refl _ _).alloc (Nat.le_refl _) _
                have HO6 := Lib.hid (own_below hownq hbn)
                have hsl6 : Sl ((wq).alloc (.cells #[.string ⟨(c).toArray⟩, .string ⟨(c).toArray⟩] 47)) ((wq).alloc (.cells #[.string ⟨(c).toArray⟩, .string ⟨(c).toArray⟩] 47)).heap.size (some ⟨wq.heap.size, 0, none⟩) 2 1 (rcells [(c, c)]) := by
                  rw [show wq.heap.size = (wq).heap.size from by first | rfl | simp [World.setCell]]; exact Sl.lit (n := 1) (sz := 2) (heap_alloc_new (wq) (.cells #[.string ⟨(c).toArray⟩, .string ⟨(c).toArray⟩] 47)) rfl
                have HSL6 := Lib.hid hsl6
                clear hsl6
                have HRD6 := Lib.hid (hrdq.later hbn)
                have hgr6 := grown_trans hgrq (grown_of_below hbn (some g))
                have hz6 := hgr6.size
                clear hrowq hownq hrdq hgrq hbn
                go_wp2_with (at_builtin; refine wpList_appM w2.heap.size 47 rfl _ _ 23 rfl Try.underlying23 hir rfl (by decide) rfl (HO6.out) rfl (HSL6.out) (rcells_one [(c, c)]) (by omega) (by omega) (by decide) hz6 ?_)
                intro v7 w7 hown7 hq7 hb7 _
                have hown8 : w7.ownsRow w2.heap.size 47 2 v7 (rows ++ [(c, c)]).length (rcells (rows ++ [(c, c)])) := by
                  rw [List.length_append, show rcells (rows ++ [(c, c)]) = rcells rows ++ rcells [(c, c)] from by simp [rcells]]; exact hown7
                have hrd7 := HRD6.out.grownHi hq7 (fun k hk => by have := (hlt4 k hk).1; omega)
                have hgr7 : w2.grownBy w7 (some g) := cls_grown hgr6 hb7 (by omega)
                have hrl7 := rows_app (nm := [(c, c)]) HRL.out (by simp; omega)
                clear hown7 hq7 hb7
                go_wp2
                go_roundg n
                case measure => omega
                case rel => exact ⟨rows ++ [(c, c)], ([45] :: [93] :: r3), hown8, hrd7, hgr7, by simp at *; omega, by simp at *; omega, hrl7, HF2⟩
              · have ht3 : takeM [93] (c3 :: r3) = none := by rw [takeM, if_neg h93]
                have g93 : (c3 == [93]) = false := beq_eq_false_iff_ne.2 h93
                have g93' : (c3 != [93]) = true := by simp [bne, g93]
                cases hit2 : itemM (c3 :: r3) with
                | none =>
                  have HF2 : Hid (none = R0) := Lib.hid (by rw [← HF.out]; simp only [classL, ht, hit, ht2, ht3, hit2]; simp)
                  have HR2 : Hid (Except.error 10 = R) := Lib.hid (by rw [← HR.out, ← HF2.out])
                  clear HR
                  have HR := HR2
                  have HIT2 := Lib.hid hit2
                  clear HF ht hit hrd hok ht2 ht3 hit2 h93
                  go_wp2_with (go_at_call 25; refine (rtake_no _ _ HRD.out HT.out).mono ?_)
                  rintro e w3 ⟨rfl, hrd3, hq3⟩
                  have hgr3 := grown_trans hg hq3
                  have hown3 := own_grownG HOWN.out hq3 (by omega)
                  have HRD3 := Lib.hid hrd3
                  clear hrd3 hq3
                  go_wp2_with (go_at_call 50; refine (ritem_any _ HRD3.out).mono ?_)
                  rintro e w4 hq
                  have hq4 := hq.1
                  have hqe := hq.2
                  rw [HIT.out] at hqe
                  obtain ⟨hrd4, hqe⟩ := hqe
                  rcases hqe with ⟨_, rfl⟩ | ⟨q, _⟩
                  case inr => exact absurd rfl q
                  have hgr4 := grown_trans hgr3 hq4
                  have hown4 := own_grownG hown3 hq4 (by omega)
                  have hlt4 := hown4.lt
                  obtain ⟨va, vc, rfl⟩ := own_form hown4
                  have hz4 := hgr4.size
                  obtain ⟨w5, hw5⟩ : ∃ w5, w5 = w4.alloc (.cells #[.string ⟨(c).toArray⟩, .string ⟨(c).toArray⟩] 47) := ⟨_, rfl⟩
                  obtain ⟨hb5, hz5e, hbr5⟩ := alloc1 w4 hw5
                  have hz5 : w4.heap.size + 1 ≤ w5.heap.size := by omega
                  have HOWN5 := Lib.hid (own_below hown4 hb5)
                  have HRD5 := Lib.hid (hrd4.later hb5)
                  have HBR5 := Lib.hid hbr5
                  have hgr5 := grown_trans hgr4 (grown_of_below hb5 (some g))
                  clear hq hq4 hrd4 hown3 hown4 hz5e hbr5 HRD3
                  obtain ⟨ir, hir⟩ := info_parts row_info
                  go_upto_region 10 with fail
                  rw [← hw5]
                  clear hw5
                  obtain ⟨lb, lo, lk, li, ln, l0, l1, l2, l3, l4⟩ := HRD5.out.look1
                  have HSEE : Hid (∀ x : ExtOf w5, Calls Try.prog 22 #[.pointer (some ⟨g, 0, none⟩)] x.val fun e w' => e = .returned (.string ⟨(([45] : Str)).toArray⟩) ∧ Below x.val.heap.size x.val w') := Lib.hid fun x => (rsee_any _ (HRD5.out.later x.ext)).mono fun _ _ ⟨h1, h2⟩ => ⟨by rw [h1]; rfl, h2.below _⟩
                  have d0 : ∀ x : ExtOf w5, x.val.cell? ⟨g, 0, none⟩ = some (.slice (some ⟨lb, lo, none⟩) ln lk) := ExtOf.cell l0
                  have d1 : ∀ x : ExtOf w5, x.val.cell? ⟨g, 1, none⟩ = some (.int .i64 li) := ExtOf.cell l1
                  have d2 : ∀ x : ExtOf w5, x.val.cell? ⟨lb, lo + (li + 1), none⟩ = some (.string ⟨(c3).toArray⟩) := ExtOf.cell l4
                  have gg : decide (li + 1 < ln) = true := by simp; omega
                  have gg2 : decide ((li : Int) + 1 < (ln : Int)) = true := by simp; omega
                  have gn : ((li : Int) + 1).toNat = li + 1 := by omega
                  have gn0 : (0 : Int) ≤ (li : Int) + 1 := by omega
                  have gn1 : (li : Int) + 1 < (ln : Int) := by omega
                  have gw : IntKind.i64.wrap ((li : Int) + 1) = (li : Int) + 1 := IntWalk.i64_in _ (by omega)
                  clear l0 l1 l4
                  refine wp_region_ext (by kernel_rfl) (by kernel_rfl) ?_
                  repeat (go_big_quiet_step ((go_at_call 22; exact ext_call (HSEE.out _))))
                  refine wpQuiet_nil ?_
                  rintro _ ⟨xq, rfl⟩
                  clear d0 d1 d2 gg gg2 gn gn0 gn1 gw
                  have hbyq := (xq.ext.block _ (heap_lt (box_grown HBY2.out hgr5 (by omega)))).trans (box_grown HBY2.out hgr5 (by omega))
                  have hrowq := (xq.ext.block _ (heap_lt HBR5.out)).trans HBR5.out
                  have hownq := own_below HOWN5.out xq.ext
                  have hrdq := HRD5.out.later xq.ext
                  have hgrq := grown_trans hgr5 (grown_of_below xq.ext (some g))
                  generalize xq.val = wq at *
                  clear HSEE
                  obtain ⟨i, hi9, c1, hf, hr6⟩ := hrdq.step
                  have HRD6 := Lib.hid hr6
                  have hgr6 := grown_set hgrq 1 (.int .i64 ((i : Int) + 1))
                  have HBYQ := Lib.hid (box_other hbyq (a := ⟨g, 1, none⟩) (by first | omega | (simp; done) | (simp; omega)) (.int .i64 ((i : Int) + 1)))
                  have HROWQ := Lib.hid (box_other hrowq (a := ⟨g, 1, none⟩) (by first | omega | (simp; done) | (simp; omega)) (.int .i64 ((i : Int) + 1)))
                  have HOWNQ := Lib.hid (own_setLow hownq (a := ⟨g, 1, none⟩) (by first | omega | (simp; done) | (simp; omega)) (.int .i64 ((i : Int) + 1)))
                  clear hrdq hr6 hbyq hrowq hownq hgrq
                  go_wp2_with (go_at_call 50; refine (ritem_any _ HRD6.out).mono ?_)
                  rintro e w7 hq
                  have hq7 := hq.1
                  have hqe := hq.2
                  rw [HIT2.out] at hqe
                  have hgr7 := grown_trans hgr6 hq7
                  have hgw7 := grown_trans hg2 hgr7
                  have hby7 := box_grown HBYQ.out hq7 (by omega)
                  have hrow7 := box_grown HROWQ.out hq7 (by omega)
                  have hown7 := own_grownG HOWNQ.out hq7 (by omega)
                  obtain ⟨f0, f1, f2, f3, f4, f5, f6, f7, f8⟩ := bx_cells (c := []) hby7
                  obtain ⟨s9, rfl⟩ : ∃ s : Str, e = .returned (.tuple #[.slice none 0 0, .string ⟨(s).toArray⟩, .bool false]) := hqe
                  clear hq hq7 hby7 hrow7 hown7
                  go_wp2
                  refine bodyPost_ret (v := .tuple #[.agg #[.int .i64 0, .string ⟨([]).toArray⟩, .bool false, .slice none 0 0, .int .i64 0, .int .i64 0, .bool false, .slice none 0 0], .int .i64 10]) (by simp [results, Try.results40, go_sem, f0, f1, f2, f3, f4, f5, f6, f7]) rfl ?_
                  refine ⟨?_, ?_⟩
                  · iterate 8 (refine grown_setNew ?_ (by first | omega | (simp; done) | (simp; omega)) _)
                    exact hgw7
                  · rw [← HR.out]; rfl
                | some y =>
                  obtain ⟨t, nm2, r4⟩ := y
                  obtain ⟨j1, j2, j3, j4, j5⟩ := item_facts hit2 i5.tail
                  have HIT2 := Lib.hid hit2
                  clear j4
                  by_cases hnm2 : nm2 = []
                  · subst hnm2
                    cases hlt : Op.bytesLess t c with
                    | true =>
                      have HF2 : Hid (none = R0) := Lib.hid (by rw [← HF.out]; simp only [classL, ht, hit, ht2, ht3, hit2, hlt]; simp)
                      have HR2 : Hid (Except.error 10 = R) := Lib.hid (by rw [← HR.out, ← HF2.out])
                      clear HR
                      have HR := HR2
                      clear HF ht hit hrd hok ht2 ht3 hit2 h93
                      go_wp2_with (go_at_call 25; refine (rtake_no _ _ HRD.out HT.out).mono ?_)
                      rintro e w3 ⟨rfl, hrd3, hq3⟩
                      have hgr3 := grown_trans hg hq3
                      have hown3 := own_grownG HOWN.out hq3 (by omega)
                      have HRD3 := Lib.hid hrd3
                      clear hrd3 hq3
                      go_wp2_with (go_at_call 50; refine (ritem_any _ HRD3.out).mono ?_)
                      rintro e w4 hq
                      have hq4 := hq.1
                      have hqe := hq.2
                      rw [HIT.out] at hqe
                      obtain ⟨hrd4, hqe⟩ := hqe
                      rcases hqe with ⟨_, rfl⟩ | ⟨q, _⟩
                      case inr => exact absurd rfl q
                      have hgr4 := grown_trans hgr3 hq4
                      have hown4 := own_grownG hown3 hq4 (by omega)
                      have hlt4 := hown4.lt
                      obtain ⟨va, vc, rfl⟩ := own_form hown4
                      have hz4 := hgr4.size
                      obtain ⟨w5, hw5⟩ : ∃ w5, w5 = w4.alloc (.cells #[.string ⟨(c).toArray⟩, .string ⟨(c).toArray⟩] 47) := ⟨_, rfl⟩
                      obtain ⟨hb5, hz5e, hbr5⟩ := alloc1 w4 hw5
                      have hz5 : w4.heap.size + 1 ≤ w5.heap.size := by omega
                      have HOWN5 := Lib.hid (own_below hown4 hb5)
                      have HRD5 := Lib.hid (hrd4.later hb5)
                      have HBR5 := Lib.hid hbr5
                      have hgr5 := grown_trans hgr4 (grown_of_below hb5 (some g))
                      clear hq hq4 hrd4 hown3 hown4 hz5e hbr5 HRD3
                      obtain ⟨ir, hir⟩ := info_parts row_info
                      go_upto_region 10 with fail
                      rw [← hw5]
                      clear hw5
                      obtain ⟨lb, lo, lk, li, ln, l0, l1, l2, l3, l4⟩ := HRD5.out.look1
                      have HSEE : Hid (∀ x : ExtOf w5, Calls Try.prog 22 #[.pointer (some ⟨g, 0, none⟩)] x.val fun e w' => e = .returned (.string ⟨(([45] : Str)).toArray⟩) ∧ Below x.val.heap.size x.val w') := Lib.hid fun x => (rsee_any _ (HRD5.out.later x.ext)).mono fun _ _ ⟨h1, h2⟩ => ⟨by rw [h1]; rfl, h2.below _⟩
                      have d0 : ∀ x : ExtOf w5, x.val.cell? ⟨g, 0, none⟩ = some (.slice (some ⟨lb, lo, none⟩) ln lk) := ExtOf.cell l0
                      have d1 : ∀ x : ExtOf w5, x.val.cell? ⟨g, 1, none⟩ = some (.int .i64 li) := ExtOf.cell l1
                      have d2 : ∀ x : ExtOf w5, x.val.cell? ⟨lb, lo + (li + 1), none⟩ = some (.string ⟨(c3).toArray⟩) := ExtOf.cell l4
                      have gg : decide (li + 1 < ln) = true := by simp; omega
                      have gg2 : decide ((li : Int) + 1 < (ln : Int)) = true := by simp; omega
                      have gn : ((li : Int) + 1).toNat = li + 1 := by omega
                      have gn0 : (0 : Int) ≤ (li : Int) + 1 := by omega
                      have gn1 : (li : Int) + 1 < (ln : Int) := by omega
                      have gw : IntKind.i64.wrap ((li : Int) + 1) = (li : Int) + 1 := IntWalk.i64_in _ (by omega)
                      clear l0 l1 l4
                      refine wp_region_ext (by kernel_rfl) (by kernel_rfl) ?_
                      repeat (go_big_quiet_step ((go_at_call 22; exact ext_call (HSEE.out _))))
                      refine wpQuiet_nil ?_
                      rintro _ ⟨xq, rfl⟩
                      clear d0 d1 d2 gg gg2 gn gn0 gn1 gw
                      have hbyq := (xq.ext.block _ (heap_lt (box_grown HBY2.out hgr5 (by omega)))).trans (box_grown HBY2.out hgr5 (by omega))
                      have hrowq := (xq.ext.block _ (heap_lt HBR5.out)).trans HBR5.out
                      have hownq := own_below HOWN5.out xq.ext
                      have hrdq := HRD5.out.later xq.ext
                      have hgrq := grown_trans hgr5 (grown_of_below xq.ext (some g))
                      generalize xq.val = wq at *
                      clear HSEE
                      obtain ⟨i, hi9, c1, hf, hr6⟩ := hrdq.step
                      have HRD6 := Lib.hid hr6
                      have hgr6 := grown_set hgrq 1 (.int .i64 ((i : Int) + 1))
                      have HBYQ := Lib.hid (box_other hbyq (a := ⟨g, 1, none⟩) (by first | omega | (simp; done) | (simp; omega)) (.int .i64 ((i : Int) + 1)))
                      have HROWQ := Lib.hid (box_other hrowq (a := ⟨g, 1, none⟩) (by first | omega | (simp; done) | (simp; omega)) (.int .i64 ((i : Int) + 1)))
                      have HOWNQ := Lib.hid (own_setLow hownq (a := ⟨g, 1, none⟩) (by first | omega | (simp; done) | (simp; omega)) (.int .i64 ((i : Int) + 1)))
                      clear hrdq hr6 hbyq hrowq hownq hgrq
                      go_wp2_with (go_at_call 50; refine (ritem_any _ HRD6.out).mono ?_)
                      rintro e w7 hq
                      have hq7 := hq.1
                      have hqe := hq.2
                      rw [HIT2.out] at hqe
                      have hgr7 := grown_trans hgr6 hq7
                      have hgw7 := grown_trans hg2 hgr7
                      have hby7 := box_grown HBYQ.out hq7 (by omega)
                      have hrow7 := box_grown HROWQ.out hq7 (by omega)
                      have hown7 := own_grownG HOWNQ.out hq7 (by omega)
                      obtain ⟨f0, f1, f2, f3, f4, f5, f6, f7, f8⟩ := bx_cells (c := []) hby7
                      obtain ⟨hrd7, hqe⟩ := hqe
                      rcases hqe with ⟨_, rfl⟩ | ⟨q, _⟩
                      case inr => exact absurd rfl q
                      have hrc70 : w7.cell? ⟨w4.heap.size, 0, none⟩ = some (.string ⟨(c).toArray⟩) := by rw [Lib.cell_of_heap hrow7]; rfl
                      clear hq hq7 hby7 hrow7 hown7 hrd7
                      go_wp2
                      refine bodyPost_ret (v := .tuple #[.agg #[.int .i64 0, .string ⟨([]).toArray⟩, .bool false, .slice none 0 0, .int .i64 0, .int .i64 0, .bool false, .slice none 0 0], .int .i64 10]) (by simp [results, Try.results40, go_sem, f0, f1, f2, f3, f4, f5, f6, f7]) rfl ?_
                      refine ⟨?_, ?_⟩
                      · iterate 8 (refine grown_setNew ?_ (by first | omega | (simp; done) | (simp; omega)) _)
                        exact hgw7
                      · rw [← HR.out]; rfl
                    | false =>
                      have HF2 : Hid (classL n (rows ++ [(c, t)]) r4 = R0) := Lib.hid (by rw [← HF.out]; simp only [classL, ht, hit, ht2, ht3, hit2, hlt]; simp)
                      clear HF ht hit hrd hok ht2 ht3 hit2 h93
                      go_wp2_with (go_at_call 25; refine (rtake_no _ _ HRD.out HT.out).mono ?_)
                      rintro e w3 ⟨rfl, hrd3, hq3⟩
                      have hgr3 := grown_trans hg hq3
                      have hown3 := own_grownG HOWN.out hq3 (by omega)
                      have HRD3 := Lib.hid hrd3
                      clear hrd3 hq3
                      go_wp2_with (go_at_call 50; refine (ritem_any _ HRD3.out).mono ?_)
                      rintro e w4 hq
                      have hq4 := hq.1
                      have hqe := hq.2
                      rw [HIT.out] at hqe
                      obtain ⟨hrd4, hqe⟩ := hqe
                      rcases hqe with ⟨_, rfl⟩ | ⟨q, _⟩
                      case inr => exact absurd rfl q
                      have hgr4 := grown_trans hgr3 hq4
                      have hown4 := own_grownG hown3 hq4 (by omega)
                      have hlt4 := hown4.lt
                      obtain ⟨va, vc, rfl⟩ := own_form hown4
                      have hz4 := hgr4.size
                      obtain ⟨w5, hw5⟩ : ∃ w5, w5 = w4.alloc (.cells #[.string ⟨(c).toArray⟩, .string ⟨(c).toArray⟩] 47) := ⟨_, rfl⟩
                      obtain ⟨hb5, hz5e, hbr5⟩ := alloc1 w4 hw5
                      have hz5 : w4.heap.size + 1 ≤ w5.heap.size := by omega
                      have HOWN5 := Lib.hid (own_below hown4 hb5)
                      have HRD5 := Lib.hid (hrd4.later hb5)
                      have HBR5 := Lib.hid hbr5
                      have hgr5 := grown_trans hgr4 (grown_of_below hb5 (some g))
                      clear hq hq4 hrd4 hown3 hown4 hz5e hbr5 HRD3
                      obtain ⟨ir, hir⟩ := info_parts row_info
                      go_upto_region 10 with fail
                      rw [← hw5]
                      clear hw5
                      obtain ⟨lb, lo, lk, li, ln, l0, l1, l2, l3, l4⟩ := HRD5.out.look1
                      have HSEE : Hid (∀ x : ExtOf w5, Calls Try.prog 22 #[.pointer (some ⟨g, 0, none⟩)] x.val fun e w' => e = .returned (.string ⟨(([45] : Str)).toArray⟩) ∧ Below x.val.heap.size x.val w') := Lib.hid fun x => (rsee_any _ (HRD5.out.later x.ext)).mono fun _ _ ⟨h1, h2⟩ => ⟨by rw [h1]; rfl, h2.below _⟩
                      have d0 : ∀ x : ExtOf w5, x.val.cell? ⟨g, 0, none⟩ = some (.slice (some ⟨lb, lo, none⟩) ln lk) := ExtOf.cell l0
                      have d1 : ∀ x : ExtOf w5, x.val.cell? ⟨g, 1, none⟩ = some (.int .i64 li) := ExtOf.cell l1
                      have d2 : ∀ x : ExtOf w5, x.val.cell? ⟨lb, lo + (li + 1), none⟩ = some (.string ⟨(c3).toArray⟩) := ExtOf.cell l4
                      have gg : decide (li + 1 < ln) = true := by simp; omega
                      have gg2 : decide ((li : Int) + 1 < (ln : Int)) = true := by simp; omega
                      have gn : ((li : Int) + 1).toNat = li + 1 := by omega
                      have gn0 : (0 : Int) ≤ (li : Int) + 1 := by omega
                      have gn1 : (li : Int) + 1 < (ln : Int) := by omega
                      have gw : IntKind.i64.wrap ((li : Int) + 1) = (li : Int) + 1 := IntWalk.i64_in _ (by omega)
                      clear l0 l1 l4
                      refine wp_region_ext (by kernel_rfl) (by kernel_rfl) ?_
                      repeat (go_big_quiet_step ((go_at_call 22; exact ext_call (HSEE.out _))))
                      refine wpQuiet_nil ?_
                      rintro _ ⟨xq, rfl⟩
                      clear d0 d1 d2 gg gg2 gn gn0 gn1 gw
                      have hbyq := (xq.ext.block _ (heap_lt (box_grown HBY2.out hgr5 (by omega)))).trans (box_grown HBY2.out hgr5 (by omega))
                      have hrowq := (xq.ext.block _ (heap_lt HBR5.out)).trans HBR5.out
                      have hownq := own_below HOWN5.out xq.ext
                      have hrdq := HRD5.out.later xq.ext
                      have hgrq := grown_trans hgr5 (grown_of_below xq.ext (some g))
                      generalize xq.val = wq at *
                      clear HSEE
                      obtain ⟨i, hi9, c1, hf, hr6⟩ := hrdq.step
                      have HRD6 := Lib.hid hr6
                      have hgr6 := grown_set hgrq 1 (.int .i64 ((i : Int) + 1))
                      have HBYQ := Lib.hid (box_other hbyq (a := ⟨g, 1, none⟩) (by first | omega | (simp; done) | (simp; omega)) (.int .i64 ((i : Int) + 1)))
                      have HROWQ := Lib.hid (box_other hrowq (a := ⟨g, 1, none⟩) (by first | omega | (simp; done) | (simp; omega)) (.int .i64 ((i : Int) + 1)))
                      have HOWNQ := Lib.hid (own_setLow hownq (a := ⟨g, 1, none⟩) (by first | omega | (simp; done) | (simp; omega)) (.int .i64 ((i : Int) + 1)))
                      clear hrdq hr6 hbyq hrowq hownq hgrq
                      go_wp2_with (go_at_call 50; refine (ritem_any _ HRD6.out).mono ?_)
                      rintro e w7 hq
                      have hq7 := hq.1
                      have hqe := hq.2
                      rw [HIT2.out] at hqe
                      have hgr7 := grown_trans hgr6 hq7
                      have hgw7 := grown_trans hg2 hgr7
                      have hby7 := box_grown HBYQ.out hq7 (by omega)
                      have hrow7 := box_grown HROWQ.out hq7 (by omega)
                      have hown7 := own_grownG HOWNQ.out hq7 (by omega)
                      obtain ⟨f0, f1, f2, f3, f4, f5, f6, f7, f8⟩ := bx_cells (c := []) hby7
                      obtain ⟨hrd7, hqe⟩ := hqe
                      rcases hqe with ⟨_, rfl⟩ | ⟨q, _⟩
                      case inr => exact absurd rfl q
                      have hrc7 : w7.cell? ⟨w4.heap.size, 1, none⟩ = some (.string ⟨(c).toArray⟩) := by rw [Lib.cell_of_heap hrow7]; rfl
                      have hrc70 : w7.cell? ⟨w4.heap.size, 0, none⟩ = some (.string ⟨(c).toArray⟩) := by rw [Lib.cell_of_heap hrow7]; rfl
                      have hfr7 : w7.frozen? ⟨w4.heap.size, 1, none⟩ = false := by unfold World.frozen?; rw [hrow7]; rfl
                      have hrowq : (w7.setCell ⟨w4.heap.size, 1, none⟩ (.string ⟨(t).toArray⟩)).heap[w4.heap.size]? = some (.cells #[.string ⟨(c).toArray⟩, .string ⟨(t).toArray⟩] 47 (0, 0)) := by
                        rw [heap_setCell_same w7 _ _ _ _ _ hrow7]; rfl
                      have hownq := own_setOther hown7 (a := ⟨w4.heap.size, 1, none⟩) (fun e => by have := (hlt4 _ e).2; simp at this) (.string ⟨(t).toArray⟩)
                      have hrdq := hrd7.setHi (a := ⟨w4.heap.size, 1, none⟩) (by simp; omega) (.string ⟨(t).toArray⟩)
                      have hgrq := grown_setNew hgr7 (a := ⟨w4.heap.size, 1, none⟩) (by first | omega | (simp; done) | (simp; omega)) (.string ⟨(t).toArray⟩)
                      clear hq hq7 hby7 hrow7 hown7 hrd7
                      have hrc0 : (w7.setCell ⟨w4.heap.size, 1, none⟩ (.string ⟨(t).toArray⟩)).cell? ⟨w4.heap.size, 0, none⟩ = some (.string ⟨(c).toArray⟩) := by rw [Lib.cell_of_heap hrowq]; rfl
                      have hrc1 : (w7.setCell ⟨w4.heap.size, 1, none⟩ (.string ⟨(t).toArray⟩)).cell? ⟨w4.heap.size, 1, none⟩ = some (.string ⟨(t).toArray⟩) := by rw [Lib.cell_of_heap hrowq]; rfl
                      have hbn : Below (w7.setCell ⟨w4.heap.size, 1, none⟩ (.string ⟨(t).toArray⟩)).heap.size (w7.setCell ⟨w4.heap.size, 1, none⟩ (.string ⟨(t).toArray⟩)) ((w7.setCell ⟨w4.heap.size, 1, none⟩ (.string ⟨(t).toArray⟩)).alloc (.cells #[.string ⟨(c).toArray⟩, .string ⟨(t).toArray⟩] 47)) := (Below.refl _ _).alloc (Nat.le_refl _) _
                      have HO6 := Lib.hid (own_below hownq hbn)
                      have hsl6 : Sl ((w7.setCell ⟨w4.heap.size, 1, none⟩ (.string ⟨(t).toArray⟩)).alloc (.cells #[.string ⟨(c).toArray⟩, .string ⟨(t).toArray⟩] 47)) ((w7.setCell ⟨w4.heap.size, 1, none⟩ (.string ⟨(t).toArray⟩)).alloc (.cells #[.string ⟨(c).toArray⟩, .string ⟨(t).toArray⟩] 47)).heap.size (some ⟨w7.heap.size, 0, none⟩) 2 1 (rcells [(c, t)]) := by
                        rw [show w7.heap.size = (w7.setCell ⟨w4.heap.size, 1, none⟩ (.string ⟨(t).toArray⟩)).heap.size from by first | rfl | simp [World.setCell]]; exact Sl.lit (n := 1) (sz := 2) (heap_alloc_new (w7.setCell ⟨w4.heap.size, 1, none⟩ (.string ⟨(t).toArray⟩)) (.cells #[.string ⟨(c).toArray⟩, .string ⟨(t).toArray⟩] 47)) rfl
                      have HSL6 := Lib.hid hsl6
                      clear hsl6
                      have HRD6 := Lib.hid (hrdq.later hbn)
                      have hgr6 := grown_trans hgrq (grown_of_below hbn (some g))
                      have hz6 := hgr6.size
                      clear hrowq hownq hrdq hgrq hbn
                      go_wp2_with (at_builtin; refine wpList_appM w2.heap.size 47 rfl _ _ 23 rfl Try.underlying23 hir rfl (by decide) rfl (HO6.out) rfl (HSL6.out) (rcells_one [(c, t)]) (by omega) (by omega) (by decide) hz6 ?_)
                      intro v7 w7 hown7 hq7 hb7 _
                      have hown8 : w7.ownsRow w2.heap.size 47 2 v7 (rows ++ [(c, t)]).length (rcells (rows ++ [(c, t)])) := by
                        rw [List.length_append, show rcells (rows ++ [(c, t)]) = rcells rows ++ rcells [(c, t)] from by simp [rcells]]; exact hown7
                      have hrd7 := HRD6.out.grownHi hq7 (fun k hk => by have := (hlt4 k hk).1; omega)
                      have hgr7 : w2.grownBy w7 (some g) := cls_grown hgr6 hb7 (by omega)
                      have hrl7 := rows_app (nm := [(c, t)]) HRL.out (by simp; omega)
                      clear hown7 hq7 hb7
                      go_wp2
                      go_roundg n
                      case measure => omega
                      case rel => exact ⟨rows ++ [(c, t)], r4, hown8, hrd7, hgr7, by simp at *; omega, by simp at *; omega, hrl7, HF2⟩
                  · have HF2 : Hid (none = R0) := Lib.hid (by rw [← HF.out]; simp only [classL, ht, hit, ht2, ht3, hit2]; simp [hnm2])
                    have HR2 : Hid (Except.error 10 = R) := Lib.hid (by rw [← HR.out, ← HF2.out])
                    clear HR
                    have HR := HR2
                    have HNM2 := Lib.hid hnm2
                    have hnp2 : 0 < nm2.length := List.length_pos_iff.2 hnm2
                    have hnd2 : decide (0 < nm2.length) = true := decide_eq_true hnp2
                    clear HF ht hit hrd hok ht2 ht3 hit2 h93 hnm2
                    go_wp2_with (go_at_call 25; refine (rtake_no _ _ HRD.out HT.out).mono ?_)
                    rintro e w3 ⟨rfl, hrd3, hq3⟩
                    have hgr3 := grown_trans hg hq3
                    have hown3 := own_grownG HOWN.out hq3 (by omega)
                    have HRD3 := Lib.hid hrd3
                    clear hrd3 hq3
                    go_wp2_with (go_at_call 50; refine (ritem_any _ HRD3.out).mono ?_)
                    rintro e w4 hq
                    have hq4 := hq.1
                    have hqe := hq.2
                    rw [HIT.out] at hqe
                    obtain ⟨hrd4, hqe⟩ := hqe
                    rcases hqe with ⟨_, rfl⟩ | ⟨q, _⟩
                    case inr => exact absurd rfl q
                    have hgr4 := grown_trans hgr3 hq4
                    have hown4 := own_grownG hown3 hq4 (by omega)
                    have hlt4 := hown4.lt
                    obtain ⟨va, vc, rfl⟩ := own_form hown4
                    have hz4 := hgr4.size
                    obtain ⟨w5, hw5⟩ : ∃ w5, w5 = w4.alloc (.cells #[.string ⟨(c).toArray⟩, .string ⟨(c).toArray⟩] 47) := ⟨_, rfl⟩
                    obtain ⟨hb5, hz5e, hbr5⟩ := alloc1 w4 hw5
                    have hz5 : w4.heap.size + 1 ≤ w5.heap.size := by omega
                    have HOWN5 := Lib.hid (own_below hown4 hb5)
                    have HRD5 := Lib.hid (hrd4.later hb5)
                    have HBR5 := Lib.hid hbr5
                    have hgr5 := grown_trans hgr4 (grown_of_below hb5 (some g))
                    clear hq hq4 hrd4 hown3 hown4 hz5e hbr5 HRD3
                    obtain ⟨ir, hir⟩ := info_parts row_info
                    go_upto_region 10 with fail
                    rw [← hw5]
                    clear hw5
                    obtain ⟨lb, lo, lk, li, ln, l0, l1, l2, l3, l4⟩ := HRD5.out.look1
                    have HSEE : Hid (∀ x : ExtOf w5, Calls Try.prog 22 #[.pointer (some ⟨g, 0, none⟩)] x.val fun e w' => e = .returned (.string ⟨(([45] : Str)).toArray⟩) ∧ Below x.val.heap.size x.val w') := Lib.hid fun x => (rsee_any _ (HRD5.out.later x.ext)).mono fun _ _ ⟨h1, h2⟩ => ⟨by rw [h1]; rfl, h2.below _⟩
                    have d0 : ∀ x : ExtOf w5, x.val.cell? ⟨g, 0, none⟩ = some (.slice (some ⟨lb, lo, none⟩) ln lk) := ExtOf.cell l0
                    have d1 : ∀ x : ExtOf w5, x.val.cell? ⟨g, 1, none⟩ = some (.int .i64 li) := ExtOf.cell l1
                    have d2 : ∀ x : ExtOf w5, x.val.cell? ⟨lb, lo + (li + 1), none⟩ = some (.string ⟨(c3).toArray⟩) := ExtOf.cell l4
                    have gg : decide (li + 1 < ln) = true := by simp; omega
                    have gg2 : decide ((li : Int) + 1 < (ln : Int)) = true := by simp; omega
                    have gn : ((li : Int) + 1).toNat = li + 1 := by omega
                    have gn0 : (0 : Int) ≤ (li : Int) + 1 := by omega
                    have gn1 : (li : Int) + 1 < (ln : Int) := by omega
                    have gw : IntKind.i64.wrap ((li : Int) + 1) = (li : Int) + 1 := IntWalk.i64_in _ (by omega)
                    clear l0 l1 l4
                    refine wp_region_ext (by kernel_rfl) (by kernel_rfl) ?_
                    repeat (go_big_quiet_step ((go_at_call 22; exact ext_call (HSEE.out _))))
                    refine wpQuiet_nil ?_
                    rintro _ ⟨xq, rfl⟩
                    clear d0 d1 d2 gg gg2 gn gn0 gn1 gw
                    have hbyq := (xq.ext.block _ (heap_lt (box_grown HBY2.out hgr5 (by omega)))).trans (box_grown HBY2.out hgr5 (by omega))
                    have hrowq := (xq.ext.block _ (heap_lt HBR5.out)).trans HBR5.out
                    have hownq := own_below HOWN5.out xq.ext
                    have hrdq := HRD5.out.later xq.ext
                    have hgrq := grown_trans hgr5 (grown_of_below xq.ext (some g))
                    generalize xq.val = wq at *
                    clear HSEE
                    obtain ⟨i, hi9, c1, hf, hr6⟩ := hrdq.step
                    have HRD6 := Lib.hid hr6
                    have hgr6 := grown_set hgrq 1 (.int .i64 ((i : Int) + 1))
                    have HBYQ := Lib.hid (box_other hbyq (a := ⟨g, 1, none⟩) (by first | omega | (simp; done) | (simp; omega)) (.int .i64 ((i : Int) + 1)))
                    have HROWQ := Lib.hid (box_other hrowq (a := ⟨g, 1, none⟩) (by first | omega | (simp; done) | (simp; omega)) (.int .i64 ((i : Int) + 1)))
                    have HOWNQ := Lib.hid (own_setLow hownq (a := ⟨g, 1, none⟩) (by first | omega | (simp; done) | (simp; omega)) (.int .i64 ((i : Int) + 1)))
                    clear hrdq hr6 hbyq hrowq hownq hgrq
                    go_wp2_with (go_at_call 50; refine (ritem_any _ HRD6.out).mono ?_)
                    rintro e w7 hq
                    have hq7 := hq.1
                    have hqe := hq.2
                    rw [HIT2.out] at hqe
                    have hgr7 := grown_trans hgr6 hq7
                    have hgw7 := grown_trans hg2 hgr7
                    have hby7 := box_grown HBYQ.out hq7 (by omega)
                    have hrow7 := box_grown HROWQ.out hq7 (by omega)
                    have hown7 := own_grownG HOWNQ.out hq7 (by omega)
                    obtain ⟨f0, f1, f2, f3, f4, f5, f6, f7, f8⟩ := bx_cells (c := []) hby7
                    obtain ⟨hrd7, hqe⟩ := hqe
                    rcases hqe with ⟨q, _⟩ | ⟨_, la2, lk2, rfl, _⟩
                    case inl => exact absurd q HNM2.out
                    clear hq hq7 hby7 hrow7 hown7 hrd7
                    go_wp2
                    refine bodyPost_ret (v := .tuple #[.agg #[.int .i64 0, .string ⟨([]).toArray⟩, .bool false, .slice none 0 0, .int .i64 0, .int .i64 0, .bool false, .slice none 0 0], .int .i64 10]) (by simp [results, Try.results40, go_sem, f0, f1, f2, f3, f4, f5, f6, f7]) rfl ?_
                    refine ⟨?_, ?_⟩
                    · iterate 8 (refine grown_setNew ?_ (by first | omega | (simp; done) | (simp; omega)) _)
                      exact hgw7
                    · rw [← HR.out]; rfl
        · have HF2 : Hid (classL n (rows ++ nm) r1 = R0) := Lib.hid (by rw [← HF.out]; simp only [classL, ht, hit]; rw [if_pos hnm])
          have HNM := Lib.hid hnm
          have hnp : 0 < nm.length := List.length_pos_iff.2 hnm
          have hnd : decide (0 < nm.length) = true := decide_eq_true hnp
          clear HF ht hit hrd hok hnm
          go_wp2_with (go_at_call 25; refine (rtake_no _ _ HRD.out HT.out).mono ?_)
          rintro e w3 ⟨rfl, hrd3, hq3⟩
          have hgr3 := grown_trans hg hq3
          have hown3 := own_grownG HOWN.out hq3 (by omega)
          have HRD3 := Lib.hid hrd3
          clear hrd3 hq3
          go_wp2_with (go_at_call 50; refine (ritem_any _ HRD3.out).mono ?_)
          rintro e w4 hq
          have hq4 := hq.1
          have hqe := hq.2
          rw [HIT.out] at hqe
          obtain ⟨hrd4, hqe⟩ := hqe
          rcases hqe with ⟨q, _⟩ | ⟨_, a, k, rfl, hsl⟩
          · exact absurd q HNM.out
          have hgr4 := grown_trans hgr3 hq4
          have hown4 := own_grownG hown3 hq4 (by omega)
          have hlt4 := hown4.lt
          obtain ⟨va, vc, rfl⟩ := own_form hown4
          have HOWN4 := Lib.hid hown4
          have HSL := Lib.hid hsl.sl
          have HRD4 := Lib.hid hrd4
          clear hq hq4 hsl hrd4 hown3 hown4
          obtain ⟨ir, hir⟩ := info_parts row_info
          have hz4 := hgr4.size
          go_wp2_with (at_builtin; refine wpList_appM w2.heap.size 47 rfl _ _ 23 rfl Try.underlying23 hir rfl (by decide) rfl (HOWN4.out) rfl (HSL.out) (rcells_one nm) (by omega) (by omega) (by decide) hz4 ?_)
          intro v5 w5 hown5 hq5 hb5 _
          have hown6 : w5.ownsRow w2.heap.size 47 2 v5 (rows ++ nm).length (rcells (rows ++ nm)) := by
            rw [List.length_append, show rcells (rows ++ nm) = rcells rows ++ rcells nm from by simp [rcells]]; exact hown5
          have hrd5 := HRD4.out.grownHi hq5 (fun k hk => by have := (hlt4 k hk).1; omega)
          have hgr5 : w2.grownBy w5 (some g) := cls_grown hgr4 hb5 (by omega)
          have hrl5 := rows_app HRL.out HI4.out
          clear hown5 hq5 hb5
          go_wp2
          go_roundg n
          case measure => omega
          case rel => exact ⟨rows ++ nm, r1, hown6, hrd5, hgr5, by rw [List.length_append]; omega, by omega, hrl5, HF2⟩
set_option maxHeartbeats 2000000 in
theorem rclass_yes {g : Nat} {r r0 : List Str} (w : World) (h : Rd2 w g r) (hng : takeM [94] r = none ∧ r0 = r) :
    Calls Try.prog 40 #[.pointer (some ⟨g, 0, none⟩)] w fun e w' => ResQ g w.heap.size w (classM r) e w' := by
  obtain ⟨R, hR⟩ : ∃ R, classM r = R := ⟨_, rfl⟩
  rw [hR]
  obtain ⟨hng, rfl⟩ := hng
  unfold classM at hR
  obtain ⟨R0, hR0⟩ : ∃ R0, classL (r0.length + 1) [] r0 = R0 := ⟨_, rfl⟩
  simp only [hng, Option.isSome_none, Option.getD_none, hR0] at hR
  have HNG := Lib.hid hng
  have HR0 := Lib.hid hR0
  have HR := Lib.hid hR
  have hok0 := h.ok
  clear hng hR0 hR
  have hr0 : r0.length ≤ 200000 := by
    exact hok0.2
  clear hok0
  obtain ⟨w0, hw0⟩ : ∃ w0, w0 = w.alloc (.cells #[.int .i64 0, .string ⟨#[]⟩, .bool false, .slice none 0 0, .int .i64 0, .int .i64 0, .bool false, .slice none 0 0] 26) := ⟨_, rfl⟩
  obtain ⟨hb0, hz0, hby0⟩ := alloc1 w hw0
  have HRD := Lib.hid (h.later hb0)
  rw [hw0] at HRD
  have HW0 := Lib.hid hw0
  have HBY0 := Lib.hid hby0
  have hgg : w.grownBy w0 (some g) := grown_of_below hb0 _
  have hgr : g < w.heap.size := h.lt
  clear hw0 hby0 h
  go_enter Try.func40, Try.ntmps40
  go_wp2_with (go_at_call 25; refine (rtake_no _ _ HRD.out HNG.out).mono ?_)
  rintro e w1 ⟨rfl, hrd1, hq1⟩
  rw [← HW0.out] at hq1
  have hg1 := grown_trans hgg hq1
  have HBY1 := Lib.hid (box_grown HBY0.out hq1 (by omega))
  have hz1 := hq1.size
  clear HRD hq1
  obtain ⟨w2, hw2⟩ : ∃ w2, w2 = w1.alloc (.cells #[.int .i64 4, .string ⟨#[]⟩, .bool false, .slice none 0 0, .int .i64 0, .int .i64 0, .bool false, .slice none 0 0] 26) := ⟨_, rfl⟩
  obtain ⟨hb2, hz2e, hbx2⟩ := alloc1 w1 hw2
  have hz2 : w1.heap.size + 1 ≤ w2.heap.size := by omega
  clear hz2e
  have HRD2 := Lib.hid (hrd1.later hb2)
  have HBY2 := Lib.hid ((hb2.block _ (heap_lt HBY1.out)).trans HBY1.out)
  have HBX2 := Lib.hid hbx2
  have hg2 := grown_trans hg1 (grown_of_below hb2 (some g))
  clear hrd1 hbx2
  go_wp2_with fail
  rw [← hw2]
  clear hw2
  go_loopg [5] (r0.length + 1) (fun n v wr => ZClsRel g w2.heap.size (4 * r0.length) w2 R0 n v wr)
  case atStart => exact ⟨[], r0, World.ownsRow_nil _ _ _ _, HRD2.out, grown_refl _ _, by simp, by omega, by simp, HR0⟩
  case round =>
    clear HR0 HRD2
    obtain ⟨rows, r, hown, hrd, hg, hL, hn, hrl, HF⟩ := hrel
    obtain ⟨hok, hrlen⟩ := hrd.ok
    obtain ⟨n, rfl⟩ : ∃ n', gk = n' + 1 := ⟨gk - 1, by omega⟩
    have HRD := Lib.hid hrd
    have hzr := hg.size
    cases ht : takeM [93] r with
    | some r1 =>
      have HF2 : Hid (some (rows, r1) = R0) := Lib.hid (by rw [← HF.out]; simp only [classL, ht])
      have HT := Lib.hid ht
      have HOWN := Lib.hid hown
      have HRL := Lib.hid hrl
      clear HF ht hrd hown hrl hok
      go_wp2_with (go_at_call 25; refine (rtake_some _ HRD.out HT.out).mono ?_)
      rintro e w3 ⟨rfl, hrd3, hq3⟩
      have hgr3 := grown_trans hg hq3
      have hgw3 := grown_trans hg2 hgr3
      have hby3 := box_grown HBY2.out hgr3 (by omega)
      have hbx3 := box_grown HBX2.out hgr3 (by omega)
      have hown3 := own_grownG HOWN.out hq3 (by omega)
      obtain ⟨va, vc, rfl⟩ := own_form hown3
      have HUN := Lib.hid (RUnion_any va rows.length vc rows w3 (Sl.of_own hown3) (by omega) HRL.out)
      have HRD3 := Lib.hid hrd3
      have HBY3 := Lib.hid hby3
      have HBX3 := Lib.hid hbx3
      have hz3 := hgr3.size
      clear hrd3 hq3 hgr3 hby3 hbx3 hown3 HOWN HRL
      go_wp2_with (go_at_call 51; refine HUN.out.mono ?_)
      rintro e w4 hq4
      obtain ⟨ua, uc, rfl, hus, hb4⟩ := hq4
      have hgw4 := grown_trans hgw3 (grown_of_below hb4 (some g))
      have hby4 := (hb4.block _ (heap_lt HBY3.out)).trans HBY3.out
      have hbx4 := (hb4.block _ (heap_lt HBX3.out)).trans HBX3.out
      have HRD4 := Lib.hid (HRD3.out.later hb4)
      have HR2 : Hid (Except.ok (setR (unionM rows) false, r1) = R) := Lib.hid (by rw [← HR.out, ← HF2.out])
      have HR := HR2
      have hz4 := hb4.size
      obtain ⟨f0, f1, f2, f3, f4, f5, f6, f7, f8⟩ := bx_cells (c := []) hby4
      obtain ⟨e0, e1, e2, e3, e4, e5, e6, e7, e8⟩ := bx_cells (c := []) hbx4
      have HUS := Lib.hid (RxV.close (k := 4) (c := []) (ng := false) (lo := 0) (hi := 0) (lz := false) (rc := uc) (ka := none) (kc := 0) (ks := []) (hus.mono (S' := fun b => w.heap.size ≤ b ∧ b ≠ w.heap.size ∧ b ≠ w1.heap.size) fun x hx _ => by omega) ⟨[], SlS.none_ _ _ _ _, .nil⟩)
      clear hby4 hbx4 hus
      go_wp2
      refine bodyPost_ret (v := .tuple #[.agg #[.int .i64 4, .string ⟨([]).toArray⟩, .bool false, .slice ua (unionM rows).length uc, .int .i64 0, .int .i64 0, .bool false, .slice none ([] : List Rx).length 0], .int .i64 0]) (by simp [results, Try.results40, go_sem, f0, f1, f2, f3, f4, f5, f6, f7]) rfl ?_
      refine ⟨?_, ?_⟩
      · iterate 9 (refine grown_setNew ?_ (by first | omega | (simp; done) | (simp; omega)) _)
        exact hgw4
      rw [← HR.out]
      refine ⟨rxc 4 [] false ua (unionM rows).length uc 0 0 false none ([] : List Rx).length 0, rfl, RxV.mono (S := fun b => w.heap.size ≤ b ∧ b ≠ w.heap.size ∧ b ≠ w1.heap.size) (fun b hb _ => hb.1) ?_, ?_⟩
      · iterate 9 (refine RxV.keep (Kept.setLow _ (fun b hb => by have : w.heap.size ≤ b ∧ b ≠ w.heap.size ∧ b ≠ w1.heap.size := hb; first | omega | (simp; done) | (simp; omega))) ?_)
        exact HUS.out
      · iterate 9 (refine RdT.setHi ?_ (by first | omega | (simp; done) | (simp; omega)) _)
        exact HRD4.out
    | none =>
      have HT := Lib.hid ht
      cases hit : itemM r with
      | none =>
        have HF2 : Hid (none = R0) := Lib.hid (by rw [← HF.out]; simp only [classL, ht, hit])
        have HR2 : Hid (Except.error 10 = R) := Lib.hid (by rw [← HR.out, ← HF2.out])
        have HR := HR2
        have HIT := Lib.hid hit
        clear HF ht hit hrd hown hrl hok
        go_wp2_with (go_at_call 25; refine (rtake_no _ _ HRD.out HT.out).mono ?_)
        rintro e w3 ⟨rfl, hrd3, hq3⟩
        have hgr3 := grown_trans hg hq3
        have HRD3 := Lib.hid hrd3
        clear hrd3 hq3
        go_wp2_with (go_at_call 50; refine (ritem_any _ HRD3.out).mono ?_)
        rintro e w4 hq
        have hq4 := hq.1
        have hqe := hq.2
        rw [HIT.out] at hqe
        obtain ⟨s9, rfl⟩ : ∃ s : Str, e = .returned (.tuple #[.slice none 0 0, .string ⟨(s).toArray⟩, .bool false]) := hqe
        have hgr4 := grown_trans hgr3 hq4
        have hgw4 := grown_trans hg2 hgr4
        obtain ⟨f0, f1, f2, f3, f4, f5, f6, f7, f8⟩ := bx_cells (c := []) (box_grown HBY2.out hgr4 (by omega))
        clear hq hq4
        go_wp2
        refine bodyPost_ret (v := .tuple #[.agg #[.int .i64 0, .string ⟨([]).toArray⟩, .bool false, .slice none 0 0, .int .i64 0, .int .i64 0, .bool false, .slice none 0 0], .int .i64 10]) (by simp [results, Try.results40, go_sem, f0, f1, f2, f3, f4, f5, f6, f7]) rfl ?_
        refine ⟨?_, ?_⟩
        · iterate 8 (refine grown_setNew ?_ (by first | omega | (simp; done) | (simp; omega)) _)
          exact hgw4
        · rw [← HR.out]; rfl
      | some y =>
        obtain ⟨c, nm, r1⟩ := y
        obtain ⟨i1, i2, i3, i4, i5⟩ := item_facts hit hok
        have HIT := Lib.hid hit
        have HI4 := Lib.hid i4
        have HRL := Lib.hid hrl
        have HOWN := Lib.hid hown
        clear i4 hrl hown
        by_cases hnm : nm = []
        · subst hnm
          cases ht2 : takeM [45] r1 with
          | none =>
            have HF2 : Hid (classL n (rows ++ [(c, c)]) r1 = R0) := Lib.hid (by rw [← HF.out]; simp only [classL, ht, hit, ht2]; simp)
            have hne := (takeM_none_hd ht2 (by simp)).1
            obtain ⟨u, hu⟩ : ∃ u, hdS r1 = u := ⟨_, rfl⟩
            rw [hu] at hne
            have HU := Lib.hid hu
            clear HF ht hit hrd hok ht2 hu
            go_wp2_with (go_at_call 25; refine (rtake_no _ _ HRD.out HT.out).mono ?_)
            rintro e w3 ⟨rfl, hrd3, hq3⟩
            have hgr3 := grown_trans hg hq3
            have hown3 := own_grownG HOWN.out hq3 (by omega)
            have HRD3 := Lib.hid hrd3
            clear hrd3 hq3
            go_wp2_with (go_at_call 50; refine (ritem_any _ HRD3.out).mono ?_)
            rintro e w4 hq
            have hq4 := hq.1
            have hqe := hq.2
            rw [HIT.out] at hqe
            obtain ⟨hrd4, hqe⟩ := hqe
            rcases hqe with ⟨_, rfl⟩ | ⟨q, _⟩
            case inr => exact absurd rfl q
            have hgr4 := grown_trans hgr3 hq4
            have hown4 := own_grownG hown3 hq4 (by omega)
            have hlt4 := hown4.lt
            obtain ⟨va, vc, rfl⟩ := own_form hown4
            have hz4 := hgr4.size
            obtain ⟨w5, hw5⟩ : ∃ w5, w5 = w4.alloc (.cells #[.string ⟨(c).toArray⟩, .string ⟨(c).toArray⟩] 47) := ⟨_, rfl⟩
            obtain ⟨hb5, hz5e, hbr5⟩ := alloc1 w4 hw5
            have hz5 : w4.heap.size + 1 ≤ w5.heap.size := by omega
            have HOWN5 := Lib.hid (own_below hown4 hb5)
            have HRD5 := Lib.hid (hrd4.later hb5)
            have HBR5 := Lib.hid hbr5
            have hgr5 := grown_trans hgr4 (grown_of_below hb5 (some g))
            clear hq hq4 hrd4 hown3 hown4 hz5e hbr5 HRD3
            obtain ⟨ir, hir⟩ := info_parts row_info
            go_upto_region 10 with fail
            rw [← hw5]
            clear hw5
            have HSEE : Hid (∀ x : ExtOf w5, Calls Try.prog 22 #[.pointer (some ⟨g, 0, none⟩)] x.val fun e w' => e = .returned (.string ⟨(u).toArray⟩) ∧ Below x.val.heap.size x.val w') := Lib.hid fun x => (rsee_any _ (HRD5.out.later x.ext)).mono fun _ _ ⟨h1, h2⟩ => ⟨by rw [h1, HU.out], h2.below _⟩
            refine wp_region_ext (by kernel_rfl) (by kernel_rfl) ?_
            repeat (go_big_quiet_step ((go_at_call 22; exact ext_call (HSEE.out _))))
            refine wpQuiet_nil ?_
            rintro _ ⟨xq, rfl⟩
            have hrowq := (xq.ext.block _ (heap_lt HBR5.out)).trans HBR5.out
            have hownq := own_below HOWN5.out xq.ext
            have hrdq := HRD5.out.later xq.ext
            have hgrq := grown_trans hgr5 (grown_of_below xq.ext (some g))
            generalize xq.val = wq at *
            clear HSEE HU hne
            have hrc0 : (wq).cell? ⟨w4.heap.size, 0, none⟩ = some (.string ⟨(c).toArray⟩) := by rw [Lib.cell_of_heap hrowq]; rfl
            have hrc1 : (wq).cell? ⟨w4.heap.size, 1, none⟩ = some (.string ⟨(c).toArray⟩) := by rw [Lib.cell_of_heap hrowq]; rfl
            have hbn : Below (wq).heap.size (wq) ((wq).alloc (.cells #[.string ⟨(c).toArray⟩, .string ⟨(c).toArray⟩] 47)) := (Below.refl _ _).alloc (Nat.le_refl _) _
            have HO6 := Lib.hid (own_below hownq hbn)
            have hsl6 : Sl ((wq).alloc (.cells #[.string ⟨(c).toArray⟩, .string ⟨(c).toArray⟩] 47)) ((wq).alloc (.cells #[.string ⟨(c).toArray⟩, .string ⟨(c).toArray⟩] 47)).heap.size (some ⟨wq.heap.size, 0, none⟩) 2 1 (rcells [(c, c)]) := by
              rw [show wq.heap.size = (wq).heap.size from by first | rfl | simp [World.setCell]]; exact Sl.lit (n := 1) (sz := 2) (heap_alloc_new (wq) (.cells #[.string ⟨(c).toArray⟩, .string ⟨(c).toArray⟩] 47)) rfl
            have HSL6 := Lib.hid hsl6
            clear hsl6
            have HRD6 := Lib.hid (hrdq.later hbn)
            have hgr6 := grown_trans hgrq (grown_of_below hbn (some g))
            have hz6 := hgr6.size
            clear hrowq hownq hrdq hgrq hbn
            go_wp2_with (at_builtin; refine wpList_appM w2.heap.size 47 rfl _ _ 23 rfl Try.underlying23 hir rfl (by decide) rfl (HO6.out) rfl (HSL6.out) (rcells_one [(c, c)]) (by omega) (by omega) (by decide) hz6 ?_)
            intro v7 w7 hown7 hq7 hb7 _
            have hown8 : w7.ownsRow w2.heap.size 47 2 v7 (rows ++ [(c, c)]).length (rcells (rows ++ [(c, c)])) := by
              rw [List.length_append, show rcells (rows ++ [(c, c)]) = rcells rows ++ rcells [(c, c)] from by simp [rcells]]; exact hown7
            have hrd7 := HRD6.out.grownHi hq7 (fun k hk => by have := (hlt4 k hk).1; omega)
            have hgr7 : w2.grownBy w7 (some g) := cls_grown hgr6 hb7 (by omega)
            have hrl7 := rows_app (nm := [(c, c)]) HRL.out (by simp; omega)
            clear hown7 hq7 hb7
            go_wp2
            go_roundg n
            case measure => omega
            case rel => exact ⟨rows ++ [(c, c)], r1, hown8, hrd7, hgr7, by simp at *; omega, by simp at *; omega, hrl7, HF2⟩
          | some r2 =>
            have er1 := takeM_some ht2
            subst er1
            cases r2 with
            | nil =>
              have HF2 : Hid (classL n (rows ++ [(c, c)]) [[45]] = R0) := Lib.hid (by rw [← HF.out, classL_dash]; simp only [classL, ht, hit, ht2]; simp [takeM, itemM])
              clear HF ht hit hrd hok ht2
              go_wp2_with (go_at_call 25; refine (rtake_no _ _ HRD.out HT.out).mono ?_)
              rintro e w3 ⟨rfl, hrd3, hq3⟩
              have hgr3 := grown_trans hg hq3
              have hown3 := own_grownG HOWN.out hq3 (by omega)
              have HRD3 := Lib.hid hrd3
              clear hrd3 hq3
              go_wp2_with (go_at_call 50; refine (ritem_any _ HRD3.out).mono ?_)
              rintro e w4 hq
              have hq4 := hq.1
              have hqe := hq.2
              rw [HIT.out] at hqe
              obtain ⟨hrd4, hqe⟩ := hqe
              rcases hqe with ⟨_, rfl⟩ | ⟨q, _⟩
              case inr => exact absurd rfl q
              have hgr4 := grown_trans hgr3 hq4
              have hown4 := own_grownG hown3 hq4 (by omega)
              have hlt4 := hown4.lt
              obtain ⟨va, vc, rfl⟩ := own_form hown4
              have hz4 := hgr4.size
              obtain ⟨w5, hw5⟩ : ∃ w5, w5 = w4.alloc (.cells #[.string ⟨(c).toArray⟩, .string ⟨(c).toArray⟩] 47) := ⟨_, rfl⟩
              obtain ⟨hb5, hz5e, hbr5⟩ := alloc1 w4 hw5
              have hz5 : w4.heap.size + 1 ≤ w5.heap.size := by omega
              have HOWN5 := Lib.hid (own_below hown4 hb5)
              have HRD5 := Lib.hid (hrd4.later hb5)
              have HBR5 := Lib.hid hbr5
              have hgr5 := grown_trans hgr4 (grown_of_below hb5 (some g))
              clear hq hq4 hrd4 hown3 hown4 hz5e hbr5 HRD3
              obtain ⟨ir, hir⟩ := info_parts row_info
              go_upto_region 10 with fail
              rw [← hw5]
              clear hw5
              obtain ⟨la, lk, li, ln, l0, l1, l2, l3⟩ := HRD5.out.look0
              have HSEE : Hid (∀ x : ExtOf w5, Calls Try.prog 22 #[.pointer (some ⟨g, 0, none⟩)] x.val fun e w' => e = .returned (.string ⟨(([45] : Str)).toArray⟩) ∧ Below x.val.heap.size x.val w') := Lib.hid fun x => (rsee_any _ (HRD5.out.later x.ext)).mono fun _ _ ⟨h1, h2⟩ => ⟨by rw [h1]; rfl, h2.below _⟩
              have d0 : ∀ x : ExtOf w5, x.val.cell? ⟨g, 0, none⟩ = some (.slice la ln lk) := ExtOf.cell l0
              have d1 : ∀ x : ExtOf w5, x.val.cell? ⟨g, 1, none⟩ = some (.int .i64 li) := ExtOf.cell l1
              have gg : decide (li + 1 < ln) = false := by simp; omega
              have gg2 : decide ((li : Int) + 1 < (ln : Int)) = false := by simp; omega
              have gw : IntKind.i64.wrap ((li : Int) + 1) = (li : Int) + 1 := IntWalk.i64_in _ (by omega)
              clear l0 l1
              refine wp_region_ext (by kernel_rfl) (by kernel_rfl) ?_
              repeat (go_big_quiet_step ((go_at_call 22; exact ext_call (HSEE.out _))))
              refine wpQuiet_nil ?_
              rintro _ ⟨xq, rfl⟩
              have hrowq := (xq.ext.block _ (heap_lt HBR5.out)).trans HBR5.out
              have hownq := own_below HOWN5.out xq.ext
              have hrdq := HRD5.out.later xq.ext
              have hgrq := grown_trans hgr5 (grown_of_below xq.ext (some g))
              generalize xq.val = wq at *
              clear HSEE gg gg2 gw d0 d1
              have hrc0 : (wq).cell? ⟨w4.heap.size, 0, none⟩ = some (.string ⟨(c).toArray⟩) := by rw [Lib.cell_of_heap hrowq]; rfl
              have hrc1 : (wq).cell? ⟨w4.heap.size, 1, none⟩ = some (.string ⟨(c).toArray⟩) := by rw [Lib.cell_of_heap hrowq]; rfl
              have hbn : Below (wq).heap.size (wq) ((wq).alloc (.cells #[.string ⟨(c).toArray⟩, .string ⟨(c).toArray⟩] 47)) := (Below.refl _ _).alloc (Nat.le_refl _) _
              have HO6 := Lib.hid (own_below hownq hbn)
              have hsl6 : Sl ((wq).alloc (.cells #[.string ⟨(c).toArray⟩, .string ⟨(c).toArray⟩] 47)) ((wq).alloc (.cells #[.string ⟨(c).toArray⟩, .string ⟨(c).toArray⟩] 47)).heap.size (some ⟨wq.heap.size, 0, none⟩) 2 1 (rcells [(c, c)]) := by
                rw [show wq.heap.size = (wq).heap.size from by first | rfl | simp [World.setCell]]; exact Sl.lit (n := 1) (sz := 2) (heap_alloc_new (wq) (.cells #[.string ⟨(c).toArray⟩, .string ⟨(c).toArray⟩] 47)) rfl
              have HSL6 := Lib.hid hsl6
              clear hsl6
              have HRD6 := Lib.hid (hrdq.later hbn)
              have hgr6 := grown_trans hgrq (grown_of_below hbn (some g))
              have hz6 := hgr6.size
              clear hrowq hownq hrdq hgrq hbn
              go_wp2_with (at_builtin; refine wpList_appM w2.heap.size 47 rfl _ _ 23 rfl Try.underlying23 hir rfl (by decide) rfl (HO6.out) rfl (HSL6.out) (rcells_one [(c, c)]) (by omega) (by omega) (by decide) hz6 ?_)
              intro v7 w7 hown7 hq7 hb7 _
              have hown8 : w7.ownsRow w2.heap.size 47 2 v7 (rows ++ [(c, c)]).length (rcells (rows ++ [(c, c)])) := by
                rw [List.length_append, show rcells (rows ++ [(c, c)]) = rcells rows ++ rcells [(c, c)] from by simp [rcells]]; exact hown7
              have hrd7 := HRD6.out.grownHi hq7 (fun k hk => by have := (hlt4 k hk).1; omega)
              have hgr7 : w2.grownBy w7 (some g) := cls_grown hgr6 hb7 (by omega)
              have hrl7 := rows_app (nm := [(c, c)]) HRL.out (by simp; omega)
              clear hown7 hq7 hb7
              go_wp2
              go_roundg n
              case measure => omega
              case rel => exact ⟨rows ++ [(c, c)], ([[45]] : List Str), hown8, hrd7, hgr7, by simp at *; omega, by simp at *; omega, hrl7, HF2⟩
            | cons c3 r3 =>
              by_cases h93 : c3 = [93]
              · subst h93
                have HF2 : Hid (classL n (rows ++ [(c, c)]) ([45] :: [93] :: r3) = R0) := Lib.hid (by rw [← HF.out]; simp only [classL, ht, hit, ht2]; simp [takeM])
                clear HF ht hit hrd hok ht2
                go_wp2_with (go_at_call 25; refine (rtake_no _ _ HRD.out HT.out).mono ?_)
                rintro e w3 ⟨rfl, hrd3, hq3⟩
                have hgr3 := grown_trans hg hq3
                have hown3 := own_grownG HOWN.out hq3 (by omega)
                have HRD3 := Lib.hid hrd3
                clear hrd3 hq3
                go_wp2_with (go_at_call 50; refine (ritem_any _ HRD3.out).mono ?_)
                rintro e w4 hq
                have hq4 := hq.1
                have hqe := hq.2
                rw [HIT.out] at hqe
                obtain ⟨hrd4, hqe⟩ := hqe
                rcases hqe with ⟨_, rfl⟩ | ⟨q, _⟩
                case inr => exact absurd rfl q
                have hgr4 := grown_trans hgr3 hq4
                have hown4 := own_grownG hown3 hq4 (by omega)
                have hlt4 := hown4.lt
                obtain ⟨va, vc, rfl⟩ := own_form hown4
                have hz4 := hgr4.size
                obtain ⟨w5, hw5⟩ : ∃ w5, w5 = w4.alloc (.cells #[.string ⟨(c).toArray⟩, .string ⟨(c).toArray⟩] 47) := ⟨_, rfl⟩
                obtain ⟨hb5, hz5e, hbr5⟩ := alloc1 w4 hw5
                have hz5 : w4.heap.size + 1 ≤ w5.heap.size := by omega
                have HOWN5 := Lib.hid (own_below hown4 hb5)
                have HRD5 := Lib.hid (hrd4.later hb5)
                have HBR5 := Lib.hid hbr5
                have hgr5 := grown_trans hgr4 (grown_of_below hb5 (some g))
                clear hq hq4 hrd4 hown3 hown4 hz5e hbr5 HRD3
                obtain ⟨ir, hir⟩ := info_parts row_info
                go_upto_region 10 with fail
                rw [← hw5]
                clear hw5
                obtain ⟨lb, lo, lk, li, ln, l0, l1, l2, l3, l4⟩ := HRD5.out.look1
                have HSEE : Hid (∀ x : ExtOf w5, Calls Try.prog 22 #[.pointer (some ⟨g, 0, none⟩)] x.val fun e w' => e = .returned (.string ⟨(([45] : Str)).toArray⟩) ∧ Below x.val.heap.size x.val w') := Lib.hid fun x => (rsee_any _ (HRD5.out.later x.ext)).mono fun _ _ ⟨h1, h2⟩ => ⟨by rw [h1]; rfl, h2.below _⟩
                have d0 : ∀ x : ExtOf w5, x.val.cell? ⟨g, 0, none⟩ = some (.slice (some ⟨lb, lo, none⟩) ln lk) := ExtOf.cell l0
                have d1 : ∀ x : ExtOf w5, x.val.cell? ⟨g, 1, none⟩ = some (.int .i64 li) := ExtOf.cell l1
                have d2 : ∀ x : ExtOf w5, x.val.cell? ⟨lb, lo + (li + 1), none⟩ = some (.string ⟨([93]).toArray⟩) := ExtOf.cell l4
                have gg : decide (li + 1 < ln) = true := by simp; omega
                have gg2 : decide ((li : Int) + 1 < (ln : Int)) = true := by simp; omega
                have gn : ((li : Int) + 1).toNat = li + 1 := by omega
                have gn0 : (0 : Int) ≤ (li : Int) + 1 := by omega
                have gn1 : (li : Int) + 1 < (ln : Int) := by omega
                have gw : IntKind.i64.wrap ((li : Int) + 1) = (li : Int) + 1 := IntWalk.i64_in _ (by omega)
                clear l0 l1 l4
                refine wp_region_ext (by kernel_rfl) (by kernel_rfl) ?_
                repeat (go_big_quiet_step ((go_at_call 22; exact ext_call (HSEE.out _))))
                refine wpQuiet_nil ?_
                rintro _ ⟨xq, rfl⟩
                clear d0 d1 d2 gg gg2 gn gn0 gn1 gw
                have hrowq := (xq.ext.block _ (heap_lt HBR5.out)).trans HBR5.out
                have hownq := own_below HOWN5.out xq.ext
                have hrdq := HRD5.out.later xq.ext
                have hgrq := grown_trans hgr5 (grown_of_below xq.ext (some g))
                generalize xq.val = wq at *
                clear HSEE
                have hrc0 : (wq).cell? ⟨w4.heap.size, 0, none⟩ = some (.string ⟨(c).toArray⟩) := by rw [Lib.cell_of_heap hrowq]; rfl
                have hrc1 : (wq).cell? ⟨w4.heap.size, 1, none⟩ = some (.string ⟨(c).toArray⟩) := by rw [Lib.cell_of_heap hrowq]; rfl
                have hbn : Below (wq).heap.size (wq) ((wq).alloc (.cells #[.string ⟨(c).toArray⟩, .string ⟨(c).toArray⟩] 47)) := (Below.refl _ _).alloc (Nat.le_refl _) _
                have HO6 := Lib.hid (own_below hownq hbn)
                have hsl6 : Sl ((wq).alloc (.cells #[.string ⟨(c).toArray⟩, .string ⟨(c).toArray⟩] 47)) ((wq).alloc (.cells #[.string ⟨(c).toArray⟩, .string ⟨(c).toArray⟩] 47)).heap.size (some ⟨wq.heap.size, 0, none⟩) 2 1 (rcells [(c, c)]) := by
                  rw [show wq.heap.size = (wq).heap.size from by first | rfl | simp [World.setCell]]; exact Sl.lit (n := 1) (sz := 2) (heap_alloc_new (wq) (.cells #[.string ⟨(c).toArray⟩, .string ⟨(c).toArray⟩] 47)) rfl
                have HSL6 := Lib.hid hsl6
                clear hsl6
                have HRD6 := Lib.hid (hrdq.later hbn)
                have hgr6 := grown_trans hgrq (grown_of_below hbn (some g))
                have hz6 := hgr6.size
                clear hrowq hownq hrdq hgrq hbn
                go_wp2_with (at_builtin; refine wpList_appM w2.heap.size 47 rfl _ _ 23 rfl Try.underlying23 hir rfl (by decide) rfl (HO6.out) rfl (HSL6.out) (rcells_one [(c, c)]) (by omega) (by omega) (by decide) hz6 ?_)
                intro v7 w7 hown7 hq7 hb7 _
                have hown8 : w7.ownsRow w2.heap.size 47 2 v7 (rows ++ [(c, c)]).length (rcells (rows ++ [(c, c)])) := by
                  rw [List.length_append, show rcells (rows ++ [(c, c)]) = rcells rows ++ rcells [(c, c)] from by simp [rcells]]; exact hown7
                have hrd7 := HRD6.out.grownHi hq7 (fun k hk => by have := (hlt4 k hk).1; omega)
                have hgr7 : w2.grownBy w7 (some g) := cls_grown hgr6 hb7 (by omega)
                have hrl7 := rows_app (nm := [(c, c)]) HRL.out (by simp; omega)
                clear hown7 hq7 hb7
                go_wp2
                go_roundg n
                case measure => omega
                case rel => exact ⟨rows ++ [(c, c)], ([45] :: [93] :: r3), hown8, hrd7, hgr7, by simp at *; omega, by simp at *; omega, hrl7, HF2⟩
              · have ht3 : takeM [93] (c3 :: r3) = none := by rw [takeM, if_neg h93]
                have g93 : (c3 == [93]) = false := beq_eq_false_iff_ne.2 h93
                have g93' : (c3 != [93]) = true := by simp [bne, g93]
                cases hit2 : itemM (c3 :: r3) with
                | none =>
                  have HF2 : Hid (none = R0) := Lib.hid (by rw [← HF.out]; simp only [classL, ht, hit, ht2, ht3, hit2]; simp)
                  have HR2 : Hid (Except.error 10 = R) := Lib.hid (by rw [← HR.out, ← HF2.out])
                  clear HR
                  have HR := HR2
                  have HIT2 := Lib.hid hit2
                  clear HF ht hit hrd hok ht2 ht3 hit2 h93
                  go_wp2_with (go_at_call 25; refine (rtake_no _ _ HRD.out HT.out).mono ?_)
                  rintro e w3 ⟨rfl, hrd3, hq3⟩
                  have hgr3 := grown_trans hg hq3
                  have hown3 := own_grownG HOWN.out hq3 (by omega)
                  have HRD3 := Lib.hid hrd3
                  clear hrd3 hq3
                  go_wp2_with (go_at_call 50; refine (ritem_any _ HRD3.out).mono ?_)
                  rintro e w4 hq
                  have hq4 := hq.1
                  have hqe := hq.2
                  rw [HIT.out] at hqe
                  obtain ⟨hrd4, hqe⟩ := hqe
                  rcases hqe with ⟨_, rfl⟩ | ⟨q, _⟩
                  case inr => exact absurd rfl q
                  have hgr4 := grown_trans hgr3 hq4
                  have hown4 := own_grownG hown3 hq4 (by omega)
                  have hlt4 := hown4.lt
                  obtain ⟨va, vc, rfl⟩ := own_form hown4
                  have hz4 := hgr4.size
                  obtain ⟨w5, hw5⟩ : ∃ w5, w5 = w4.alloc (.cells #[.string ⟨(c).toArray⟩, .string ⟨(c).toArray⟩] 47) := ⟨_, rfl⟩
                  obtain ⟨hb5, hz5e, hbr5⟩ := alloc1 w4 hw5
                  have hz5 : w4.heap.size + 1 ≤ w5.heap.size := by omega
                  have HOWN5 := Lib.hid (own_below hown4 hb5)
                  have HRD5 := Lib.hid (hrd4.later hb5)
                  have HBR5 := Lib.hid hbr5
                  have hgr5 := grown_trans hgr4 (grown_of_below hb5 (some g))
                  clear hq hq4 hrd4 hown3 hown4 hz5e hbr5 HRD3
                  obtain ⟨ir, hir⟩ := info_parts row_info
                  go_upto_region 10 with fail
                  rw [← hw5]
                  clear hw5
                  obtain ⟨lb, lo, lk, li, ln, l0, l1, l2, l3, l4⟩ := HRD5.out.look1
                  have HSEE : Hid (∀ x : ExtOf w5, Calls Try.prog 22 #[.pointer (some ⟨g, 0, none⟩)] x.val fun e w' => e = .returned (.string ⟨(([45] : Str)).toArray⟩) ∧ Below x.val.heap.size x.val w') := Lib.hid fun x => (rsee_any _ (HRD5.out.later x.ext)).mono fun _ _ ⟨h1, h2⟩ => ⟨by rw [h1]; rfl, h2.below _⟩
                  have d0 : ∀ x : ExtOf w5, x.val.cell? ⟨g, 0, none⟩ = some (.slice (some ⟨lb, lo, none⟩) ln lk) := ExtOf.cell l0
                  have d1 : ∀ x : ExtOf w5, x.val.cell? ⟨g, 1, none⟩ = some (.int .i64 li) := ExtOf.cell l1
                  have d2 : ∀ x : ExtOf w5, x.val.cell? ⟨lb, lo + (li + 1), none⟩ = some (.string ⟨(c3).toArray⟩) := ExtOf.cell l4
                  have gg : decide (li + 1 < ln) = true := by simp; omega
                  have gg2 : decide ((li : Int) + 1 < (ln : Int)) = true := by simp; omega
                  have gn : ((li : Int) + 1).toNat = li + 1 := by omega
                  have gn0 : (0 : Int) ≤ (li : Int) + 1 := by omega
                  have gn1 : (li : Int) + 1 < (ln : Int) := by omega
                  have gw : IntKind.i64.wrap ((li : Int) + 1) = (li : Int) + 1 := IntWalk.i64_in _ (by omega)
                  clear l0 l1 l4
                  refine wp_region_ext (by kernel_rfl) (by kernel_rfl) ?_
                  repeat (go_big_quiet_step ((go_at_call 22; exact ext_call (HSEE.out _))))
                  refine wpQuiet_nil ?_
                  rintro _ ⟨xq, rfl⟩
                  clear d0 d1 d2 gg gg2 gn gn0 gn1 gw
                  have hbyq := (xq.ext.block _ (heap_lt (box_grown HBY2.out hgr5 (by omega)))).trans (box_grown HBY2.out hgr5 (by omega))
                  have hrowq := (xq.ext.block _ (heap_lt HBR5.out)).trans HBR5.out
                  have hownq := own_below HOWN5.out xq.ext
                  have hrdq := HRD5.out.later xq.ext
                  have hgrq := grown_trans hgr5 (grown_of_below xq.ext (some g))
                  generalize xq.val = wq at *
                  clear HSEE
                  obtain ⟨i, hi9, c1, hf, hr6⟩ := hrdq.step
                  have HRD6 := Lib.hid hr6
                  have hgr6 := grown_set hgrq 1 (.int .i64 ((i : Int) + 1))
                  have HBYQ := Lib.hid (box_other hbyq (a := ⟨g, 1, none⟩) (by first | omega | (simp; done) | (simp; omega)) (.int .i64 ((i : Int) + 1)))
                  have HROWQ := Lib.hid (box_other hrowq (a := ⟨g, 1, none⟩) (by first | omega | (simp; done) | (simp; omega)) (.int .i64 ((i : Int) + 1)))
                  have HOWNQ := Lib.hid (own_setLow hownq (a := ⟨g, 1, none⟩) (by first | omega | (simp; done) | (simp; omega)) (.int .i64 ((i : Int) + 1)))
                  clear hrdq hr6 hbyq hrowq hownq hgrq
                  go_wp2_with (go_at_call 50; refine (ritem_any _ HRD6.out).mono ?_)
                  rintro e w7 hq
                  have hq7 := hq.1
                  have hqe := hq.2
                  rw [HIT2.out] at hqe
                  have hgr7 := grown_trans hgr6 hq7
                  have hgw7 := grown_trans hg2 hgr7
                  have hby7 := box_grown HBYQ.out hq7 (by omega)
                  have hrow7 := box_grown HROWQ.out hq7 (by omega)
                  have hown7 := own_grownG HOWNQ.out hq7 (by omega)
                  obtain ⟨f0, f1, f2, f3, f4, f5, f6, f7, f8⟩ := bx_cells (c := []) hby7
                  obtain ⟨s9, rfl⟩ : ∃ s : Str, e = .returned (.tuple #[.slice none 0 0, .string ⟨(s).toArray⟩, .bool false]) := hqe
                  clear hq hq7 hby7 hrow7 hown7
                  go_wp2
                  refine bodyPost_ret (v := .tuple #[.agg #[.int .i64 0, .string ⟨([]).toArray⟩, .bool false, .slice none 0 0, .int .i64 0, .int .i64 0, .bool false, .slice none 0 0], .int .i64 10]) (by simp [results, Try.results40, go_sem, f0, f1, f2, f3, f4, f5, f6, f7]) rfl ?_
                  refine ⟨?_, ?_⟩
                  · iterate 8 (refine grown_setNew ?_ (by first | omega | (simp; done) | (simp; omega)) _)
                    exact hgw7
                  · rw [← HR.out]; rfl
                | some y =>
                  obtain ⟨t, nm2, r4⟩ := y
                  obtain ⟨j1, j2, j3, j4, j5⟩ := item_facts hit2 i5.tail
                  have HIT2 := Lib.hid hit2
                  clear j4
                  by_cases hnm2 : nm2 = []
                  · subst hnm2
                    cases hlt : Op.bytesLess t c with
                    | true =>
                      have HF2 : Hid (none = R0) := Lib.hid (by rw [← HF.out]; simp only [classL, ht, hit, ht2, ht3, hit2, hlt]; simp)
                      have HR2 : Hid (Except.error 10 = R) := Lib.hid (by rw [← HR.out, ← HF2.out])
                      clear HR
                      have HR := HR2
                      clear HF ht hit hrd hok ht2 ht3 hit2 h93
                      go_wp2_with (go_at_call 25; refine (rtake_no _ _ HRD.out HT.out).mono ?_)
                      rintro e w3 ⟨rfl, hrd3, hq3⟩
                      have hgr3 := grown_trans hg hq3
                      have hown3 := own_grownG HOWN.out hq3 (by omega)
                      have HRD3 := Lib.hid hrd3
                      clear hrd3 hq3
                      go_wp2_with (go_at_call 50; refine (ritem_any _ HRD3.out).mono ?_)
                      rintro e w4 hq
                      have hq4 := hq.1
                      have hqe := hq.2
                      rw [HIT.out] at hqe
                      obtain ⟨hrd4, hqe⟩ := hqe
                      rcases hqe with ⟨_, rfl⟩ | ⟨q, _⟩
                      case inr => exact absurd rfl q
                      have hgr4 := grown_trans hgr3 hq4
                      have hown4 := own_grownG hown3 hq4 (by omega)
                      have hlt4 := hown4.lt
                      obtain ⟨va, vc, rfl⟩ := own_form hown4
                      have hz4 := hgr4.size
                      obtain ⟨w5, hw5⟩ : ∃ w5, w5 = w4.alloc (.cells #[.string ⟨(c).toArray⟩, .string ⟨(c).toArray⟩] 47) := ⟨_, rfl⟩
                      obtain ⟨hb5, hz5e, hbr5⟩ := alloc1 w4 hw5
                      have hz5 : w4.heap.size + 1 ≤ w5.heap.size := by omega
                      have HOWN5 := Lib.hid (own_below hown4 hb5)
                      have HRD5 := Lib.hid (hrd4.later hb5)
                      have HBR5 := Lib.hid hbr5
                      have hgr5 := grown_trans hgr4 (grown_of_below hb5 (some g))
                      clear hq hq4 hrd4 hown3 hown4 hz5e hbr5 HRD3
                      obtain ⟨ir, hir⟩ := info_parts row_info
                      go_upto_region 10 with fail
                      rw [← hw5]
                      clear hw5
                      obtain ⟨lb, lo, lk, li, ln, l0, l1, l2, l3, l4⟩ := HRD5.out.look1
                      have HSEE : Hid (∀ x : ExtOf w5, Calls Try.prog 22 #[.pointer (some ⟨g, 0, none⟩)] x.val fun e w' => e = .returned (.string ⟨(([45] : Str)).toArray⟩) ∧ Below x.val.heap.size x.val w') := Lib.hid fun x => (rsee_any _ (HRD5.out.later x.ext)).mono fun _ _ ⟨h1, h2⟩ => ⟨by rw [h1]; rfl, h2.below _⟩
                      have d0 : ∀ x : ExtOf w5, x.val.cell? ⟨g, 0, none⟩ = some (.slice (some ⟨lb, lo, none⟩) ln lk) := ExtOf.cell l0
                      have d1 : ∀ x : ExtOf w5, x.val.cell? ⟨g, 1, none⟩ = some (.int .i64 li) := ExtOf.cell l1
                      have d2 : ∀ x : ExtOf w5, x.val.cell? ⟨lb, lo + (li + 1), none⟩ = some (.string ⟨(c3).toArray⟩) := ExtOf.cell l4
                      have gg : decide (li + 1 < ln) = true := by simp; omega
                      have gg2 : decide ((li : Int) + 1 < (ln : Int)) = true := by simp; omega
                      have gn : ((li : Int) + 1).toNat = li + 1 := by omega
                      have gn0 : (0 : Int) ≤ (li : Int) + 1 := by omega
                      have gn1 : (li : Int) + 1 < (ln : Int) := by omega
                      have gw : IntKind.i64.wrap ((li : Int) + 1) = (li : Int) + 1 := IntWalk.i64_in _ (by omega)
                      clear l0 l1 l4
                      refine wp_region_ext (by kernel_rfl) (by kernel_rfl) ?_
                      repeat (go_big_quiet_step ((go_at_call 22; exact ext_call (HSEE.out _))))
                      refine wpQuiet_nil ?_
                      rintro _ ⟨xq, rfl⟩
                      clear d0 d1 d2 gg gg2 gn gn0 gn1 gw
                      have hbyq := (xq.ext.block _ (heap_lt (box_grown HBY2.out hgr5 (by omega)))).trans (box_grown HBY2.out hgr5 (by omega))
                      have hrowq := (xq.ext.block _ (heap_lt HBR5.out)).trans HBR5.out
                      have hownq := own_below HOWN5.out xq.ext
                      have hrdq := HRD5.out.later xq.ext
                      have hgrq := grown_trans hgr5 (grown_of_below xq.ext (some g))
                      generalize xq.val = wq at *
                      clear HSEE
                      obtain ⟨i, hi9, c1, hf, hr6⟩ := hrdq.step
                      have HRD6 := Lib.hid hr6
                      have hgr6 := grown_set hgrq 1 (.int .i64 ((i : Int) + 1))
                      have HBYQ := Lib.hid (box_other hbyq (a := ⟨g, 1, none⟩) (by first | omega | (simp; done) | (simp; omega)) (.int .i64 ((i : Int) + 1)))
                      have HROWQ := Lib.hid (box_other hrowq (a := ⟨g, 1, none⟩) (by first | omega | (simp; done) | (simp; omega)) (.int .i64 ((i : Int) + 1)))
                      have HOWNQ := Lib.hid (own_setLow hownq (a := ⟨g, 1, none⟩) (by first | omega | (simp; done) | (simp; omega)) (.int .i64 ((i : Int) + 1)))
                      clear hrdq hr6 hbyq hrowq hownq hgrq
                      go_wp2_with (go_at_call 50; refine (ritem_any _ HRD6.out).mono ?_)
                      rintro e w7 hq
                      have hq7 := hq.1
                      have hqe := hq.2
                      rw [HIT2.out] at hqe
                      have hgr7 := grown_trans hgr6 hq7
                      have hgw7 := grown_trans hg2 hgr7
                      have hby7 := box_grown HBYQ.out hq7 (by omega)
                      have hrow7 := box_grown HROWQ.out hq7 (by omega)
                      have hown7 := own_grownG HOWNQ.out hq7 (by omega)
                      obtain ⟨f0, f1, f2, f3, f4, f5, f6, f7, f8⟩ := bx_cells (c := []) hby7
                      obtain ⟨hrd7, hqe⟩ := hqe
                      rcases hqe with ⟨_, rfl⟩ | ⟨q, _⟩
                      case inr => exact absurd rfl q
                      have hrc70 : w7.cell? ⟨w4.heap.size, 0, none⟩ = some (.string ⟨(c).toArray⟩) := by rw [Lib.cell_of_heap hrow7]; rfl
                      clear hq hq7 hby7 hrow7 hown7 hrd7
                      go_wp2
                      refine bodyPost_ret (v := .tuple #[.agg #[.int .i64 0, .string ⟨([]).toArray⟩, .bool false, .slice none 0 0, .int .i64 0, .int .i64 0, .bool false, .slice none 0 0], .int .i64 10]) (by simp [results, Try.results40, go_sem, f0, f1, f2, f3, f4, f5, f6, f7]) rfl ?_
                      refine ⟨?_, ?_⟩
                      · iterate 8 (refine grown_setNew ?_ (by first | omega | (simp; done) | (simp; omega)) _)
                        exact hgw7
                      · rw [← HR.out]; rfl
                    | false =>
                      have HF2 : Hid (classL n (rows ++ [(c, t)]) r4 = R0) := Lib.hid (by rw [← HF.out]; simp only [classL, ht, hit, ht2, ht3, hit2, hlt]; simp)
                      clear HF ht hit hrd hok ht2 ht3 hit2 h93
                      go_wp2_with (go_at_call 25; refine (rtake_no _ _ HRD.out HT.out).mono ?_)
                      rintro e w3 ⟨rfl, hrd3, hq3⟩
                      have hgr3 := grown_trans hg hq3
                      have hown3 := own_grownG HOWN.out hq3 (by omega)
                      have HRD3 := Lib.hid hrd3
                      clear hrd3 hq3
                      go_wp2_with (go_at_call 50; refine (ritem_any _ HRD3.out).mono ?_)
                      rintro e w4 hq
                      have hq4 := hq.1
                      have hqe := hq.2
                      rw [HIT.out] at hqe
                      obtain ⟨hrd4, hqe⟩ := hqe
                      rcases hqe with ⟨_, rfl⟩ | ⟨q, _⟩
                      case inr => exact absurd rfl q
                      have hgr4 := grown_trans hgr3 hq4
                      have hown4 := own_grownG hown3 hq4 (by omega)
                      have hlt4 := hown4.lt
                      obtain ⟨va, vc, rfl⟩ := own_form hown4
                      have hz4 := hgr4.size
                      obtain ⟨w5, hw5⟩ : ∃ w5, w5 = w4.alloc (.cells #[.string ⟨(c).toArray⟩, .string ⟨(c).toArray⟩] 47) := ⟨_, rfl⟩
                      obtain ⟨hb5, hz5e, hbr5⟩ := alloc1 w4 hw5
                      have hz5 : w4.heap.size + 1 ≤ w5.heap.size := by omega
                      have HOWN5 := Lib.hid (own_below hown4 hb5)
                      have HRD5 := Lib.hid (hrd4.later hb5)
                      have HBR5 := Lib.hid hbr5
                      have hgr5 := grown_trans hgr4 (grown_of_below hb5 (some g))
                      clear hq hq4 hrd4 hown3 hown4 hz5e hbr5 HRD3
                      obtain ⟨ir, hir⟩ := info_parts row_info
                      go_upto_region 10 with fail
                      rw [← hw5]
                      clear hw5
                      obtain ⟨lb, lo, lk, li, ln, l0, l1, l2, l3, l4⟩ := HRD5.out.look1
                      have HSEE : Hid (∀ x : ExtOf w5, Calls Try.prog 22 #[.pointer (some ⟨g, 0, none⟩)] x.val fun e w' => e = .returned (.string ⟨(([45] : Str)).toArray⟩) ∧ Below x.val.heap.size x.val w') := Lib.hid fun x => (rsee_any _ (HRD5.out.later x.ext)).mono fun _ _ ⟨h1, h2⟩ => ⟨by rw [h1]; rfl, h2.below _⟩
                      have d0 : ∀ x : ExtOf w5, x.val.cell? ⟨g, 0, none⟩ = some (.slice (some ⟨lb, lo, none⟩) ln lk) := ExtOf.cell l0
                      have d1 : ∀ x : ExtOf w5, x.val.cell? ⟨g, 1, none⟩ = some (.int .i64 li) := ExtOf.cell l1
                      have d2 : ∀ x : ExtOf w5, x.val.cell? ⟨lb, lo + (li + 1), none⟩ = some (.string ⟨(c3).toArray⟩) := ExtOf.cell l4
                      have gg : decide (li + 1 < ln) = true := by simp; omega
                      have gg2 : decide ((li : Int) + 1 < (ln : Int)) = true := by simp; omega
                      have gn : ((li : Int) + 1).toNat = li + 1 := by omega
                      have gn0 : (0 : Int) ≤ (li : Int) + 1 := by omega
                      have gn1 : (li : Int) + 1 < (ln : Int) := by omega
                      have gw : IntKind.i64.wrap ((li : Int) + 1) = (li : Int) + 1 := IntWalk.i64_in _ (by omega)
                      clear l0 l1 l4
                      refine wp_region_ext (by kernel_rfl) (by kernel_rfl) ?_
                      repeat (go_big_quiet_step ((go_at_call 22; exact ext_call (HSEE.out _))))
                      refine wpQuiet_nil ?_
                      rintro _ ⟨xq, rfl⟩
                      clear d0 d1 d2 gg gg2 gn gn0 gn1 gw
                      have hbyq := (xq.ext.block _ (heap_lt (box_grown HBY2.out hgr5 (by omega)))).trans (box_grown HBY2.out hgr5 (by omega))
                      have hrowq := (xq.ext.block _ (heap_lt HBR5.out)).trans HBR5.out
                      have hownq := own_below HOWN5.out xq.ext
                      have hrdq := HRD5.out.later xq.ext
                      have hgrq := grown_trans hgr5 (grown_of_below xq.ext (some g))
                      generalize xq.val = wq at *
                      clear HSEE
                      obtain ⟨i, hi9, c1, hf, hr6⟩ := hrdq.step
                      have HRD6 := Lib.hid hr6
                      have hgr6 := grown_set hgrq 1 (.int .i64 ((i : Int) + 1))
                      have HBYQ := Lib.hid (box_other hbyq (a := ⟨g, 1, none⟩) (by first | omega | (simp; done) | (simp; omega)) (.int .i64 ((i : Int) + 1)))
                      have HROWQ := Lib.hid (box_other hrowq (a := ⟨g, 1, none⟩) (by first | omega | (simp; done) | (simp; omega)) (.int .i64 ((i : Int) + 1)))
                      have HOWNQ := Lib.hid (own_setLow hownq (a := ⟨g, 1, none⟩) (by first | omega | (simp; done) | (simp; omega)) (.int .i64 ((i : Int) + 1)))
                      clear hrdq hr6 hbyq hrowq hownq hgrq
                      go_wp2_with (go_at_call 50; refine (ritem_any _ HRD6.out).mono ?_)
                      rintro e w7 hq
                      have hq7 := hq.1
                      have hqe := hq.2
                      rw [HIT2.out] at hqe
                      have hgr7 := grown_trans hgr6 hq7
                      have hgw7 := grown_trans hg2 hgr7
                      have hby7 := box_grown HBYQ.out hq7 (by omega)
                      have hrow7 := box_grown HROWQ.out hq7 (by omega)
                      have hown7 := own_grownG HOWNQ.out hq7 (by omega)
                      obtain ⟨f0, f1, f2, f3, f4, f5, f6, f7, f8⟩ := bx_cells (c := []) hby7
                      obtain ⟨hrd7, hqe⟩ := hqe
                      rcases hqe with ⟨_, rfl⟩ | ⟨q, _⟩
                      case inr => exact absurd rfl q
                      have hrc7 : w7.cell? ⟨w4.heap.size, 1, none⟩ = some (.string ⟨(c).toArray⟩) := by rw [Lib.cell_of_heap hrow7]; rfl
                      have hrc70 : w7.cell? ⟨w4.heap.size, 0, none⟩ = some (.string ⟨(c).toArray⟩) := by rw [Lib.cell_of_heap hrow7]; rfl
                      have hfr7 : w7.frozen? ⟨w4.heap.size, 1, none⟩ = false := by unfold World.frozen?; rw [hrow7]; rfl
                      have hrowq : (w7.setCell ⟨w4.heap.size, 1, none⟩ (.string ⟨(t).toArray⟩)).heap[w4.heap.size]? = some (.cells #[.string ⟨(c).toArray⟩, .string ⟨(t).toArray⟩] 47 (0, 0)) := by
                        rw [heap_setCell_same w7 _ _ _ _ _ hrow7]; rfl
                      have hownq := own_setOther hown7 (a := ⟨w4.heap.size, 1, none⟩) (fun e => by have := (hlt4 _ e).2; simp at this) (.string ⟨(t).toArray⟩)
                      have hrdq := hrd7.setHi (a := ⟨w4.heap.size, 1, none⟩) (by simp; omega) (.string ⟨(t).toArray⟩)
                      have hgrq := grown_setNew hgr7 (a := ⟨w4.heap.size, 1, none⟩) (by first | omega | (simp; done) | (simp; omega)) (.string ⟨(t).toArray⟩)
                      clear hq hq7 hby7 hrow7 hown7 hrd7
                      have hrc0 : (w7.setCell ⟨w4.heap.size, 1, none⟩ (.string ⟨(t).toArray⟩)).cell? ⟨w4.heap.size, 0, none⟩ = some (.string ⟨(c).toArray⟩) := by rw [Lib.cell_of_heap hrowq]; rfl
                      have hrc1 : (w7.setCell ⟨w4.heap.size, 1, none⟩ (.string ⟨(t).toArray⟩)).cell? ⟨w4.heap.size, 1, none⟩ = some (.string ⟨(t).toArray⟩) := by rw [Lib.cell_of_heap hrowq]; rfl
                      have hbn : Below (w7.setCell ⟨w4.heap.size, 1, none⟩ (.string ⟨(t).toArray⟩)).heap.size (w7.setCell ⟨w4.heap.size, 1, none⟩ (.string ⟨(t).toArray⟩)) ((w7.setCell ⟨w4.heap.size, 1, none⟩ (.string ⟨(t).toArray⟩)).alloc (.cells #[.string ⟨(c).toArray⟩, .string ⟨(t).toArray⟩] 47)) := (Below.refl _ _).alloc (Nat.le_refl _) _
                      have HO6 := Lib.hid (own_below hownq hbn)
                      have hsl6 : Sl ((w7.setCell ⟨w4.heap.size, 1, none⟩ (.string ⟨(t).toArray⟩)).alloc (.cells #[.string ⟨(c).toArray⟩, .string ⟨(t).toArray⟩] 47)) ((w7.setCell ⟨w4.heap.size, 1, none⟩ (.string ⟨(t).toArray⟩)).alloc (.cells #[.string ⟨(c).toArray⟩, .string ⟨(t).toArray⟩] 47)).heap.size (some ⟨w7.heap.size, 0, none⟩) 2 1 (rcells [(c, t)]) := by
                        rw [show w7.heap.size = (w7.setCell ⟨w4.heap.size, 1, none⟩ (.string ⟨(t).toArray⟩)).heap.size from by first | rfl | simp [World.setCell]]; exact Sl.lit (n := 1) (sz := 2) (heap_alloc_new (w7.setCell ⟨w4.heap.size, 1, none⟩ (.string ⟨(t).toArray⟩)) (.cells #[.string ⟨(c).toArray⟩, .string ⟨(t).toArray⟩] 47)) rfl
                      have HSL6 := Lib.hid hsl6
                      clear hsl6
                      have HRD6 := Lib.hid (hrdq.later hbn)
                      have hgr6 := grown_trans hgrq (grown_of_below hbn (some g))
                      have hz6 := hgr6.size
                      clear hrowq hownq hrdq hgrq hbn
                      go_wp2_with (at_builtin; refine wpList_appM w2.heap.size 47 rfl _ _ 23 rfl Try.underlying23 hir rfl (by decide) rfl (HO6.out) rfl (HSL6.out) (rcells_one [(c, t)]) (by omega) (by omega) (by decide) hz6 ?_)
                      intro v7 w7 hown7 hq7 hb7 _
                      have hown8 : w7.ownsRow w2.heap.size 47 2 v7 (rows ++ [(c, t)]).length (rcells (rows ++ [(c, t)])) := by
                        rw [List.length_append, show rcells (rows ++ [(c, t)]) = rcells rows ++ rcells [(c, t)] from by simp [rcells]]; exact hown7
                      have hrd7 := HRD6.out.grownHi hq7 (fun k hk => by have := (hlt4 k hk).1; omega)
                      have hgr7 : w2.grownBy w7 (some g) := cls_grown hgr6 hb7 (by omega)
                      have hrl7 := rows_app (nm := [(c, t)]) HRL.out (by simp; omega)
                      clear hown7 hq7 hb7
                      go_wp2
                      go_roundg n
                      case measure => omega
                      case rel => exact ⟨rows ++ [(c, t)], r4, hown8, hrd7, hgr7, by simp at *; omega, by simp at *; omega, hrl7, HF2⟩
                  · have HF2 : Hid (none = R0) := Lib.hid (by rw [← HF.out]; simp only [classL, ht, hit, ht2, ht3, hit2]; simp [hnm2])
                    have HR2 : Hid (Except.error 10 = R) := Lib.hid (by rw [← HR.out, ← HF2.out])
                    clear HR
                    have HR := HR2
                    have HNM2 := Lib.hid hnm2
                    have hnp2 : 0 < nm2.length := List.length_pos_iff.2 hnm2
                    have hnd2 : decide (0 < nm2.length) = true := decide_eq_true hnp2
                    clear HF ht hit hrd hok ht2 ht3 hit2 h93 hnm2
                    go_wp2_with (go_at_call 25; refine (rtake_no _ _ HRD.out HT.out).mono ?_)
                    rintro e w3 ⟨rfl, hrd3, hq3⟩
                    have hgr3 := grown_trans hg hq3
                    have hown3 := own_grownG HOWN.out hq3 (by omega)
                    have HRD3 := Lib.hid hrd3
                    clear hrd3 hq3
                    go_wp2_with (go_at_call 50; refine (ritem_any _ HRD3.out).mono ?_)
                    rintro e w4 hq
                    have hq4 := hq.1
                    have hqe := hq.2
                    rw [HIT.out] at hqe
                    obtain ⟨hrd4, hqe⟩ := hqe
                    rcases hqe with ⟨_, rfl⟩ | ⟨q, _⟩
                    case inr => exact absurd rfl q
                    have hgr4 := grown_trans hgr3 hq4
                    have hown4 := own_grownG hown3 hq4 (by omega)
                    have hlt4 := hown4.lt
                    obtain ⟨va, vc, rfl⟩ := own_form hown4
                    have hz4 := hgr4.size
                    obtain ⟨w5, hw5⟩ : ∃ w5, w5 = w4.alloc (.cells #[.string ⟨(c).toArray⟩, .string ⟨(c).toArray⟩] 47) := ⟨_, rfl⟩
                    obtain ⟨hb5, hz5e, hbr5⟩ := alloc1 w4 hw5
                    have hz5 : w4.heap.size + 1 ≤ w5.heap.size := by omega
                    have HOWN5 := Lib.hid (own_below hown4 hb5)
                    have HRD5 := Lib.hid (hrd4.later hb5)
                    have HBR5 := Lib.hid hbr5
                    have hgr5 := grown_trans hgr4 (grown_of_below hb5 (some g))
                    clear hq hq4 hrd4 hown3 hown4 hz5e hbr5 HRD3
                    obtain ⟨ir, hir⟩ := info_parts row_info
                    go_upto_region 10 with fail
                    rw [← hw5]
                    clear hw5
                    obtain ⟨lb, lo, lk, li, ln, l0, l1, l2, l3, l4⟩ := HRD5.out.look1
                    have HSEE : Hid (∀ x : ExtOf w5, Calls Try.prog 22 #[.pointer (some ⟨g, 0, none⟩)] x.val fun e w' => e = .returned (.string ⟨(([45] : Str)).toArray⟩) ∧ Below x.val.heap.size x.val w') := Lib.hid fun x => (rsee_any _ (HRD5.out.later x.ext)).mono fun _ _ ⟨h1, h2⟩ => ⟨by rw [h1]; rfl, h2.below _⟩
                    have d0 : ∀ x : ExtOf w5, x.val.cell? ⟨g, 0, none⟩ = some (.slice (some ⟨lb, lo, none⟩) ln lk) := ExtOf.cell l0
                    have d1 : ∀ x : ExtOf w5, x.val.cell? ⟨g, 1, none⟩ = some (.int .i64 li) := ExtOf.cell l1
                    have d2 : ∀ x : ExtOf w5, x.val.cell? ⟨lb, lo + (li + 1), none⟩ = some (.string ⟨(c3).toArray⟩) := ExtOf.cell l4
                    have gg : decide (li + 1 < ln) = true := by simp; omega
                    have gg2 : decide ((li : Int) + 1 < (ln : Int)) = true := by simp; omega
                    have gn : ((li : Int) + 1).toNat = li + 1 := by omega
                    have gn0 : (0 : Int) ≤ (li : Int) + 1 := by omega
                    have gn1 : (li : Int) + 1 < (ln : Int) := by omega
                    have gw : IntKind.i64.wrap ((li : Int) + 1) = (li : Int) + 1 := IntWalk.i64_in _ (by omega)
                    clear l0 l1 l4
                    refine wp_region_ext (by kernel_rfl) (by kernel_rfl) ?_
                    repeat (go_big_quiet_step ((go_at_call 22; exact ext_call (HSEE.out _))))
                    refine wpQuiet_nil ?_
                    rintro _ ⟨xq, rfl⟩
                    clear d0 d1 d2 gg gg2 gn gn0 gn1 gw
                    have hbyq := (xq.ext.block _ (heap_lt (box_grown HBY2.out hgr5 (by omega)))).trans (box_grown HBY2.out hgr5 (by omega))
                    have hrowq := (xq.ext.block _ (heap_lt HBR5.out)).trans HBR5.out
                    have hownq := own_below HOWN5.out xq.ext
                    have hrdq := HRD5.out.later xq.ext
                    have hgrq := grown_trans hgr5 (grown_of_below xq.ext (some g))
                    generalize xq.val = wq at *
                    clear HSEE
                    obtain ⟨i, hi9, c1, hf, hr6⟩ := hrdq.step
                    have HRD6 := Lib.hid hr6
                    have hgr6 := grown_set hgrq 1 (.int .i64 ((i : Int) + 1))
                    have HBYQ := Lib.hid (box_other hbyq (a := ⟨g, 1, none⟩) (by first | omega | (simp; done) | (simp; omega)) (.int .i64 ((i : Int) + 1)))
                    have HROWQ := Lib.hid (box_other hrowq (a := ⟨g, 1, none⟩) (by first | omega | (simp; done) | (simp; omega)) (.int .i64 ((i : Int) + 1)))
                    have HOWNQ := Lib.hid (own_setLow hownq (a := ⟨g, 1, none⟩) (by first | omega | (simp; done) | (simp; omega)) (.int .i64 ((i : Int) + 1)))
                    clear hrdq hr6 hbyq hrowq hownq hgrq
                    go_wp2_with (go_at_call 50; refine (ritem_any _ HRD6.out).mono ?_)
                    rintro e w7 hq
                    have hq7 := hq.1
                    have hqe := hq.2
                    rw [HIT2.out] at hqe
                    have hgr7 := grown_trans hgr6 hq7
                    have hgw7 := grown_trans hg2 hgr7
                    have hby7 := box_grown HBYQ.out hq7 (by omega)
                    have hrow7 := box_grown HROWQ.out hq7 (by omega)
                    have hown7 := own_grownG HOWNQ.out hq7 (by omega)
                    obtain ⟨f0, f1, f2, f3, f4, f5, f6, f7, f8⟩ := bx_cells (c := []) hby7
                    obtain ⟨hrd7, hqe⟩ := hqe
                    rcases hqe with ⟨q, _⟩ | ⟨_, la2, lk2, rfl, _⟩
                    case inl => exact absurd q HNM2.out
                    clear hq hq7 hby7 hrow7 hown7 hrd7
                    go_wp2
                    refine bodyPost_ret (v := .tuple #[.agg #[.int .i64 0, .string ⟨([]).toArray⟩, .bool false, .slice none 0 0, .int .i64 0, .int .i64 0, .bool false, .slice none 0 0], .int .i64 10]) (by simp [results, Try.results40, go_sem, f0, f1, f2, f3, f4, f5, f6, f7]) rfl ?_
                    refine ⟨?_, ?_⟩
                    · iterate 8 (refine grown_setNew ?_ (by first | omega | (simp; done) | (simp; omega)) _)
                      exact hgw7
                    · rw [← HR.out]; rfl
        · have HF2 : Hid (classL n (rows ++ nm) r1 = R0) := Lib.hid (by rw [← HF.out]; simp only [classL, ht, hit]; rw [if_pos hnm])
          have HNM := Lib.hid hnm
          have hnp : 0 < nm.length := List.length_pos_iff.2 hnm
          have hnd : decide (0 < nm.length) = true := decide_eq_true hnp
          clear HF ht hit hrd hok hnm
          go_wp2_with (go_at_call 25; refine (rtake_no _ _ HRD.out HT.out).mono ?_)
          rintro e w3 ⟨rfl, hrd3, hq3⟩
          have hgr3 := grown_trans hg hq3
          have hown3 := own_grownG HOWN.out hq3 (by omega)
          have HRD3 := Lib.hid hrd3
          clear hrd3 hq3
          go_wp2_with (go_at_call 50; refine (ritem_any _ HRD3.out).mono ?_)
          rintro e w4 hq
          have hq4 := hq.1
          have hqe := hq.2
          rw [HIT.out] at hqe
          obtain ⟨hrd4, hqe⟩ := hqe
          rcases hqe with ⟨q, _⟩ | ⟨_, a, k, rfl, hsl⟩
          · exact absurd q HNM.out
          have hgr4 := grown_trans hgr3 hq4
          have hown4 := own_grownG hown3 hq4 (by omega)
          have hlt4 := hown4.lt
          obtain ⟨va, vc, rfl⟩ := own_form hown4
          have HOWN4 := Lib.hid hown4
          have HSL := Lib.hid hsl.sl
          have HRD4 := Lib.hid hrd4
          clear hq hq4 hsl hrd4 hown3 hown4
          obtain ⟨ir, hir⟩ := info_parts row_info
          have hz4 := hgr4.size
          go_wp2_with (at_builtin; refine wpList_appM w2.heap.size 47 rfl _ _ 23 rfl Try.underlying23 hir rfl (by decide) rfl (HOWN4.out) rfl (HSL.out) (rcells_one nm) (by omega) (by omega) (by decide) hz4 ?_)
          intro v5 w5 hown5 hq5 hb5 _
          have hown6 : w5.ownsRow w2.heap.size 47 2 v5 (rows ++ nm).length (rcells (rows ++ nm)) := by
            rw [List.length_append, show rcells (rows ++ nm) = rcells rows ++ rcells nm from by simp [rcells]]; exact hown5
          have hrd5 := HRD4.out.grownHi hq5 (fun k hk => by have := (hlt4 k hk).1; omega)
          have hgr5 : w2.grownBy w5 (some g) := cls_grown hgr4 hb5 (by omega)
          have hrl5 := rows_app HRL.out HI4.out
          clear hown5 hq5 hb5
          go_wp2
          go_roundg n
          case measure => omega
          case rel => exact ⟨rows ++ nm, r1, hown6, hrd5, hgr5, by rw [List.length_append]; omega, by omega, hrl5, HF2⟩
theorem rclass_any {g : Nat} {r : List Str} (w : World) (h : Rd2 w g r) :
    Calls Try.prog 40 #[.pointer (some ⟨g, 0, none⟩)] w fun e w' => ResQ g w.heap.size w (classM r) e w' := by
  cases hng : takeM [94] r with
  | some r0 => exact rclass_not w h hng
  | none => exact rclass_yes w h ⟨hng, rfl⟩
end Go.Proofs.Ytemophfieihgaaa
