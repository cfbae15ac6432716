/- Rows in a slice that the call owns: swaps; walk of slices.swapRangeCmpFunc -/
import Derived.Test.YtemophfieihgaaaE1
import Derived.Test.YtemophfieihgaaaC5
set_option maxRecDepth 100000
namespace Go.Proofs.Ytemophfieihgaaa
open Go.RowKit
abbrev Row := Str × Str
def RO (w : World) (B g cap : Nat) (rs : List Row) : Prop := w.ownsRow B 47 2 (.slice (some ⟨g, 0, none⟩) rs.length cap) rs.length (rcells rs)
theorem RO.at_ {w : World} {B g cap : Nat} {rs : List Row} (h : RO w B g cap rs) {i : Nat} {r : Row} (hi : rs[i]? = some r) :
    w.cell? ⟨g, i * 2, none⟩ = some (.string ⟨(r.1).toArray⟩) ∧ w.cell? ⟨g, i * 2 + 1, none⟩ = some (.string ⟨(r.2).toArray⟩) := by
  have hlt := (List.getElem?_eq_some_iff.1 hi).1
  obtain ⟨c1, c2⟩ := rcells_at hi
  exact ⟨by rw [h.cellAt _ (by omega)]; exact c1, by rw [h.cellAt _ (by omega)]; exact c2⟩
theorem RO.free {w : World} {B g cap : Nat} {rs : List Row} (h : RO w B g cap rs) (j : Nat) : w.frozen? ⟨g, j, none⟩ = false := h.frozenAt j
theorem RO.lt {w : World} {B g cap : Nat} {rs : List Row} (h : RO w B g cap rs) : B ≤ g ∧ g < w.heap.size := World.ownsRow.lt h g rfl
theorem rcells_set : ∀ (rs : List Row) (i : Nat) (y : Row), i < rs.length → rcells (rs.set i y) = ((rcells rs).set (i * 2) (.string ⟨(y.1).toArray⟩)).set (i * 2 + 1) (.string ⟨(y.2).toArray⟩)
  | [], i, y, h => by simp at h
  | r :: rs, 0, y, _ => by simp [rcells]
  | r :: rs, i + 1, y, h => by
    have ih := rcells_set rs i y (by simpa using h)
    have h1 : ∀ l : List Row, rcells (r :: l) = .string ⟨(r.1).toArray⟩ :: .string ⟨(r.2).toArray⟩ :: rcells l := fun l => by simp [rcells]
    rw [List.set_cons_succ, h1, h1, ih, show (i + 1) * 2 = i * 2 + 2 by omega]; rfl
theorem RO.set {w : World} {B g cap : Nat} {rs : List Row} (h : RO w B g cap rs) {i : Nat} (y : Row) (hi : i < rs.length) :
    RO ((w.setCell ⟨g, i * 2, none⟩ (.string ⟨(y.1).toArray⟩)).setCell ⟨g, i * 2 + 1, none⟩ (.string ⟨(y.2).toArray⟩)) B g cap (rs.set i y) := by
  have h1 := ((h.stored (i * 2) (.string ⟨(y.1).toArray⟩)).1.stored (i * 2 + 1) (.string ⟨(y.2).toArray⟩)).1
  unfold RO
  rw [rcells_set rs i y hi, List.length_set]; exact h1
theorem grown_set {w w' : World} {g : Nat} (h : w.grownBy w' (some g)) (o : Nat) (u : Value) : w.grownBy (w'.setCell ⟨g, o, none⟩ u) (some g) :=
  ⟨h.os, h.tape, h.output, by simp [World.setCell]; exact h.size, fun k hk hne => (heap_setCell_other w' ⟨g, o, none⟩ k u (fun e => hne (by simp [e]))).trans (h.block k hk hne)⟩
theorem grown_below {w w' w2 : World} {row : Option Nat} (h : w.grownBy w' row) (hb : Below w'.heap.size w' w2) : w.grownBy w2 row :=
  ⟨hb.os.trans h.os, hb.tape.trans h.tape, hb.output.trans h.output, Nat.le_trans h.size hb.size, fun k hk hne => (hb.block k (Nat.lt_of_lt_of_le hk h.size)).trans (h.block k hk hne)⟩
theorem grown_trans {a b c : World} {row : Option Nat} (h1 : a.grownBy b row) (h2 : b.grownBy c row) : a.grownBy c row :=
  ⟨h2.os.trans h1.os, h2.tape.trans h1.tape, h2.output.trans h1.output, Nat.le_trans h1.size h2.size, fun k hk hne => (h2.block k (Nat.lt_of_lt_of_le hk h1.size) hne).trans (h1.block k hk hne)⟩
theorem grown_refl (w : World) (row : Option Nat) : w.grownBy w row := ⟨rfl, rfl, rfl, Nat.le_refl _, fun _ _ _ => rfl⟩
theorem grown_drew {w w' : World} {row : Option Nat} (h : w.grownBy w' row) : w.grownBy w'.drew row := ⟨h.os, h.tape, h.output, h.size, h.block⟩
/-- Two elements change places. -/
def swapL (rs : List Row) (i j : Nat) : List Row := match rs[i]?, rs[j]? with | some x, some y => (rs.set i y).set j x | _, _ => rs
theorem swapL_len (rs : List Row) (i j : Nat) : (swapL rs i j).length = rs.length := by
  unfold swapL; split <;> simp
theorem swapL_eq {rs : List Row} {i j : Nat} {x y : Row} (hi : rs[i]? = some x) (hj : rs[j]? = some y) : swapL rs i j = (rs.set i y).set j x := by
  unfold swapL; rw [hi, hj]
theorem RO.swap {w : World} {B g cap : Nat} {rs : List Row} (h : RO w B g cap rs) {i j : Nat} {x y : Row} (hi : rs[i]? = some x) (hj : rs[j]? = some y) :
    RO ((((w.setCell ⟨g, i * 2, none⟩ (.string ⟨(y.1).toArray⟩)).setCell ⟨g, i * 2 + 1, none⟩ (.string ⟨(y.2).toArray⟩)).setCell ⟨g, j * 2, none⟩ (.string ⟨(x.1).toArray⟩)).setCell ⟨g, j * 2 + 1, none⟩ (.string ⟨(x.2).toArray⟩)).drew B g cap (swapL rs i j) := by
  have h1 := (List.getElem?_eq_some_iff.1 hi).1
  have h2 := (List.getElem?_eq_some_iff.1 hj).1
  rw [swapL_eq hi hj]
  exact ((h.set y h1).set x (by simpa using h2) : RO _ _ _ _ _)
def SwRel (B g cap a b n : Nat) (N : Nat) (R : List Row) (w : World) (q : Value) (wr : World) : Prop :=
  ∃ (i : Nat) (rs : List Row), i ≤ n ∧ q = .int .i64 i ∧ RO wr B g cap rs ∧ w.grownBy wr (some g) ∧ rs.length = N ∧
    Hid ((List.range' i (n - i)).foldl (fun l k => swapL l (a + k) (b + k)) rs = R)
def swapN (rs : List Row) (a b n : Nat) : List Row := (List.range' 0 n).foldl (fun l k => swapL l (a + k) (b + k)) rs
set_option maxHeartbeats 2000000 in
theorem swapRange_any (B g cap : Nat) (rs : List Row) (a b n : Nat) (f : Value) (w : World) (h : RO w B g cap rs) (ha : a + n ≤ rs.length) (hb : b + n ≤ rs.length) (hl : rs.length ≤ 1000000) :
    Calls Try.prog 68 #[.slice (some ⟨g, 0, none⟩) rs.length cap, .int .i64 a, .int .i64 b, .int .i64 n, f] w fun e w' => e = .returned (.tuple #[]) ∧ RO w' B g cap (swapN rs a b n) ∧ w.grownBy w' (some g) := by
  obtain ⟨R, hR⟩ : ∃ R, swapN rs a b n = R := ⟨_, rfl⟩
  rw [hR]
  have HR0 : Hid ((List.range' 0 (n - 0)).foldl (fun l k => swapL l (a + k) (b + k)) rs = R) := Lib.hid hR
  obtain ⟨N, hN⟩ : ∃ N, N = rs.length := ⟨_, rfl⟩
  have HN := Lib.hid hN
  have HRO := Lib.hid h
  rw [← hN] at ha hb hl ⊢
  clear hR h hN
  go_enter Try.func68, Try.ntmps68
  go_wp2
  go_loopw [10] (fun q wr => SwRel B g cap a b n N R w q wr) (fun q _ => n - (intOf q).toNat)
  case atStart => exact ⟨0, rs, by omega, rfl, HRO.out, grown_refl _ _, HN.out.symm, HR0⟩
  case round =>
    obtain ⟨i, l, hin, rfl, hro, hg, hlN, HF⟩ := hrel
    clear HR0 HRO HN
    by_cases h2 : i < n
    · obtain ⟨x, hx⟩ : ∃ x, l[a + i]? = some x := ⟨_, List.getElem?_eq_getElem (by omega)⟩
      obtain ⟨y, hy⟩ : ∃ y, l[b + i]? = some y := ⟨_, List.getElem?_eq_getElem (by omega)⟩
      obtain ⟨c1, c2⟩ := hro.at_ hx
      obtain ⟨c3, c4⟩ := hro.at_ hy
      have f := fun j => hro.free j
      have HF2 : Hid ((List.range' (i + 1) (n - (i + 1))).foldl (fun l k => swapL l (a + k) (b + k)) (swapL l (a + i) (b + i)) = R) := Lib.hid (by
        rw [← HF.out, show n - i = (n - (i + 1)) + 1 by omega, List.range'_succ, List.foldl_cons])
      have hsw := hro.swap hx hy
      have HSW := Lib.hid hsw
      have hgs := grown_drew (grown_set (grown_set (grown_set (grown_set hg ((a + i) * 2) (.string ⟨(y.1).toArray⟩)) ((a + i) * 2 + 1) (.string ⟨(y.2).toArray⟩)) ((b + i) * 2) (.string ⟨(x.1).toArray⟩)) ((b + i) * 2 + 1) (.string ⟨(x.2).toArray⟩))
      have HGS := Lib.hid hgs
      have hro2 := hro.set y (i := a + i) (by omega)
      obtain ⟨z, hz⟩ : ∃ z, (l.set (a + i) y)[b + i]? = some z := ⟨_, List.getElem?_eq_getElem (by simp; omega)⟩
      obtain ⟨c5, c6⟩ := hro2.at_ hz
      have f2 := fun j => hro2.free j
      obtain ⟨x1, x2⟩ := x
      obtain ⟨y1, y2⟩ := y
      clear hsw hgs HF hro hx hy hz hro2
      go_wp2
      go_region
      go_wp2
      exact ⟨⟨i + 1, swapL l (a + i) (b + i), by omega, by go_num, HSW.out, HGS.out, by rw [swapL_len]; exact hlN, HF2⟩, by simp [intOf]; omega⟩
    · have hni : i = n := by omega
      have HE : Hid (l = R) := Lib.hid (by rw [← HF.out, hni, Nat.sub_self]; rfl)
      clear HF
      go_wp2
      go_end0
      exact ⟨rfl, by rw [← HE.out]; exact hro, hg⟩
end Go.Proofs.Ytemophfieihgaaa
