/- A reader in memory: what is left of its characters; walks of rxread's place: see, take, next · walks of rxread's place: take, next -/
import Derived.Test.YtemophfieihgaaaPM
import Derived.Test.YtemophfieihgaaaE2
set_option maxRecDepth 100000
namespace Go.Proofs.Ytemophfieihgaaa
open Go.RowKit
/-- A reader of type T in block g: r is what is left of the characters; x: what it has besides. -/
def RdT (T : TypeId) (x : List Value) (w : World) (g : Nat) (r : List Str) : Prop :=
  ∃ (a : Option Addr) (c : Nat) (l : List Str) (i : Nat), w.heap[g]? = some (.cells (.slice a l.length c :: .int .i64 i :: x).toArray T (0, 0)) ∧ SlS w (fun b => b < g) a 1 l.length (scells l) ∧ l.length ≤ 200000 ∧ i ≤ l.length ∧
    (∀ p ∈ l, p ≠ [] ∧ p.length ≤ 1000000) ∧ l.drop i = r
def hdS : List Str → Str | [] => [] | c :: _ => c
theorem RdT.cells {T : TypeId} {x : List Value} {w : World} {g : Nat} {r : List Str} (h : RdT T x w g r) : ∃ a c l i, w.cell? ⟨g, 0, none⟩ = some (.slice a (l : List Str).length c) ∧ w.cell? ⟨g, 1, none⟩ = some (.int .i64 (i : Nat)) ∧
    (∀ j, j < 2 + x.length → w.frozen? ⟨g, j, none⟩ = false) ∧ SlS w (fun b => b < g) a 1 l.length (scells l) ∧ l.length ≤ 200000 ∧ i ≤ l.length ∧ (∀ p ∈ l, p ≠ [] ∧ p.length ≤ 1000000) ∧ l.drop i = r ∧ g < w.heap.size := by
  obtain ⟨a, c, l, i, h1, h2, h3, h4, h5, h6⟩ := h
  refine ⟨a, c, l, i, ?_, ?_, ?_, h2, h3, h4, h5, h6, heap_lt h1⟩
  · rw [Lib.cell_of_heap h1]; rfl
  · rw [Lib.cell_of_heap h1]; rfl
  · intro j hj; unfold World.frozen?; rw [h1]; rfl
theorem RdT.cell2 {T : TypeId} {u : Value} {w : World} {g : Nat} {r : List Str} (h : RdT T [u] w g r) : w.cell? ⟨g, 2, none⟩ = some u := by
  obtain ⟨a, c, l, i, h1, _⟩ := h
  rw [Lib.cell_of_heap h1]; rfl
theorem RdT.lt {T : TypeId} {x : List Value} {w : World} {g : Nat} {r : List Str} (h : RdT T x w g r) : g < w.heap.size := by
  obtain ⟨a, c, l, i, h1, _⟩ := h
  exact heap_lt h1
/-- The memory is as it was. -/
def Still (w w' : World) : Prop := w'.heap = w.heap ∧ w'.os = w.os ∧ w'.tape = w.tape ∧ w'.output = w.output
theorem Still.drewN (w : World) (n : Nat) : Still w (w.drewN n) := ⟨rfl, rfl, rfl, rfl⟩
theorem Still.trans {a b c : World} (h1 : Still a b) (h2 : Still b c) : Still a c := ⟨h2.1.trans h1.1, h2.2.1.trans h1.2.1, h2.2.2.1.trans h1.2.2.1, h2.2.2.2.trans h1.2.2.2⟩
theorem Still.below {w w' : World} (h : Still w w') (B : Nat) : Below B w w' := ⟨h.2.1, h.2.2.1, h.2.2.2, by rw [h.1]; exact Nat.le_refl _, fun _ _ => by rw [h.1]⟩
theorem Still.size {w w' : World} (h : Still w w') : w'.heap.size = w.heap.size := by rw [h.1]
theorem Still.grown {w w' : World} (h : Still w w') (g : Option Nat) : w.grownBy w' g := ⟨h.2.1, h.2.2.1, h.2.2.2, by rw [h.1]; exact Nat.le_refl _, fun _ _ _ => by rw [h.1]⟩
theorem RdT.later {T : TypeId} {x : List Value} {w w' : World} {g : Nat} {r : List Str} (hr : RdT T x w g r) (h : Below w.heap.size w w') : RdT T x w' g r := by
  obtain ⟨a, c, l, i, h1, h2, h3⟩ := hr
  exact ⟨a, c, l, i, (h.block g (heap_lt h1)).trans h1, h2.keep ⟨h.size, fun b _ hlt => h.block b hlt⟩, h3⟩
theorem Still.rd {T : TypeId} {x : List Value} {w w' : World} (h : Still w w') {g : Nat} {r : List Str} (hr : RdT T x w g r) : RdT T x w' g r := hr.later (h.below _)
abbrev Rd (w : World) (g : Nat) (r : List Str) (d : Nat) : Prop := RdT 38 [.int .i64 d] w g r
theorem ldrop_none {α : Type} {l : List α} {i : Nat} (h : l.drop i = []) : l.length ≤ i := by simpa using h
theorem RdT.pos {T : TypeId} {x : List Value} {w : World} {g : Nat} {c : Str} {r : List Str} (h : RdT T x w g (c :: r)) : c ≠ [] ∧ c.length ≤ 1000000 := by
  obtain ⟨a, k, l, i, _, _, _, _, h5, h6⟩ := h
  have := (ldrop_cons h6).2.1
  exact h5 c (List.mem_of_getElem? this)
set_option maxHeartbeats 400000 in
theorem see_any {T : TypeId} {x : List Value} {g : Nat} {r : List Str} (w : World) (h : RdT T x w g r) :
    Calls Try.prog 11 #[.pointer (some ⟨g, 0, none⟩)] w fun e w' => e = .returned (.string ⟨(hdS r).toArray⟩) ∧ Still w w' := by
  obtain ⟨a, c, l, i, c0, c1, hf, hs, hl, hi, hp, hd, hg⟩ := h.cells
  clear h hf
  cases r with
  | nil =>
    have h2 : l.length ≤ i := ldrop_none hd
    show Calls Try.prog 11 #[.pointer (some ⟨g, 0, none⟩)] w fun e w' => e = .returned (.string ⟨(([] : Str)).toArray⟩) ∧ Still w w'
    clear hd hs
    go_enter Try.func11, Try.ntmps11
    go_wp2
    go_quiet (fail)
    go_wp2
    go_ret
    exact ⟨rfl, Still.drewN _ _⟩
  | cons p r =>
    obtain ⟨h2, hx, _⟩ := ldrop_cons hd
    obtain ⟨b, o, rfl, hb, k0⟩ := hs.sl.str hx
    show Calls Try.prog 11 #[.pointer (some ⟨g, 0, none⟩)] w fun e w' => e = .returned (.string ⟨(p).toArray⟩) ∧ Still w w'
    clear hx hs hd
    go_enter Try.func11, Try.ntmps11
    go_wp2
    go_quiet (fail)
    go_wp2
    obtain ⟨w1, hw1⟩ : ∃ w1, w1 = w.drewN nq := ⟨_, rfl⟩
    have hbq : Below w.heap.size w w1 := by rw [hw1]; exact below_drewN (Below.refl _ _) _
    rw [← hw1]
    have e0 := cell_kept hbq _ _ c0
    have e1 := cell_kept hbq _ _ c1
    have e2 := cell_kept hbq _ _ k0
    have HW := Lib.hid hw1
    clear c0 c1 k0 hw1
    go_quiet (fail)
    go_wp2
    go_ret
    refine ⟨rfl, ?_⟩
    rw [HW.out]
    exact (Still.drewN _ _).trans (Still.drewN _ _)
end Go.Proofs.Ytemophfieihgaaa
namespace Go.Proofs.Ytemophfieihgaaa
open Go.RowKit
theorem heap_set_at {w : World} {g : Nat} {y z u : Value} {x : List Value} {t : TypeId} (h : w.heap[g]? = some (.cells (y :: z :: x).toArray t (0, 0))) : (w.setCell ⟨g, 1, none⟩ u).heap[g]? = some (.cells (y :: u :: x).toArray t (0, 0)) := by
  simp [World.setCell, Array.getElem?_modify, h]
theorem RdT.setAt {T : TypeId} {x : List Value} {w : World} {g : Nat} {r r' : List Str} {a : Option Addr} {c : Nat} {l : List Str} (h : RdT T x w g r)
    (h0 : w.cell? ⟨g, 0, none⟩ = some (.slice a l.length c)) (h2 : SlS w (fun b => b < g) a 1 l.length (scells l)) (h3 : l.length ≤ 200000) (h5 : ∀ p ∈ l, p ≠ [] ∧ p.length ≤ 1000000) (j : Nat) (hj : j ≤ l.length) (hd : l.drop j = r') :
    RdT T x (w.setCell ⟨g, 1, none⟩ (.int .i64 j)) g r' := by
  obtain ⟨a', c', l', i', h1, _⟩ := h
  rw [Lib.cell_of_heap h1] at h0
  have e : (Value.slice a' l'.length c') = .slice a l.length c := by simpa using h0
  rw [e] at h1
  exact ⟨a, c, l, j, heap_set_at h1, h2.keep (Kept.setLow _ fun b hb => Nat.ne_of_lt hb), h3, hj, h5, hd⟩
theorem drop_two {l r : List Str} {i : Nat} {c : Str} (h : l.drop i = c :: r) : i + 1 ≤ l.length ∧ l.drop (i + 1) = r := ⟨(ldrop_cons h).1, (ldrop_cons h).2.2⟩
/-- What a reader's fields are, for a walk that goes on by one. -/
theorem RdT.step {T : TypeId} {x : List Value} {w : World} {g : Nat} {c : Str} {r : List Str} (h : RdT T x w g (c :: r)) : ∃ i : Nat, i < 1000000 ∧ w.cell? ⟨g, 1, none⟩ = some (.int .i64 i) ∧ w.frozen? ⟨g, 1, none⟩ = false ∧ RdT T x (w.setCell ⟨g, 1, none⟩ (.int .i64 ((i : Int) + 1))) g r := by
  obtain ⟨a, k, l, i, c0, c1, hf, hs, hl, hi, hp, hd, hg⟩ := h.cells
  obtain ⟨h1, h2⟩ := drop_two hd
  exact ⟨i, by omega, c1, hf 1 (by omega), h.setAt (l := l) c0 hs hl hp (i + 1) h1 h2⟩
theorem RdT.step2 {T : TypeId} {x : List Value} {w : World} {g : Nat} {c c2 : Str} {r : List Str} (h : RdT T x w g (c :: c2 :: r)) : ∃ i : Nat, i < 1000000 ∧ w.cell? ⟨g, 1, none⟩ = some (.int .i64 i) ∧ w.frozen? ⟨g, 1, none⟩ = false ∧ RdT T x (w.setCell ⟨g, 1, none⟩ (.int .i64 ((i : Int) + 2))) g r := by
  obtain ⟨a, k, l, i, c0, c1, hf, hs, hl, hi, hp, hd, hg⟩ := h.cells
  obtain ⟨h1, h2⟩ := drop_two hd
  obtain ⟨h3, h4⟩ := drop_two h2
  exact ⟨i, by omega, c1, hf 1 (by omega), h.setAt (l := l) c0 hs hl hp (i + 2) h3 h4⟩
theorem grown_still {w w1 w2 : World} {g : Option Nat} (h1 : Still w w1) (h2 : w1.grownBy w2 g) : w.grownBy w2 g := grown_trans (h1.grown g) h2
set_option maxHeartbeats 400000 in
theorem take_yes {T : TypeId} {x : List Value} {g : Nat} {r : List Str} (c : Str) (w : World) (h : RdT T x w g (c :: r)) :
    Calls Try.prog 39 #[.pointer (some ⟨g, 0, none⟩), .string ⟨(c).toArray⟩] w fun e w' => e = .returned (.bool true) ∧ RdT T x w' g r ∧ w.grownBy w' (some g) := by
  have HS := Lib.hid (see_any w h)
  have HR := Lib.hid h
  clear h
  go_enter Try.func39, Try.ntmps39
  go_wp2_with (go_at_call 11; refine HS.out.mono ?_)
  rintro e w1 ⟨rfl, hst⟩
  obtain ⟨i, hi, c1, hf, hr⟩ := (hst.rd HR.out).step
  have HR1 := Lib.hid hr
  clear hr
  unfold hdS
  go_wp2
  go_ret
  exact ⟨rfl, HR1.out, grown_still hst (grown_set (grown_refl _ _) _ _)⟩
theorem take_no {T : TypeId} {x : List Value} {g : Nat} {r : List Str} (c : Str) (w : World) (h : RdT T x w g r) (hc : takeM c r = none) (hc0 : c ≠ []) :
    Calls Try.prog 39 #[.pointer (some ⟨g, 0, none⟩), .string ⟨(c).toArray⟩] w fun e w' => e = .returned (.bool false) ∧ Still w w' := by
  have HS := Lib.hid (see_any w h)
  obtain ⟨u, hu⟩ : ∃ u, hdS r = u := ⟨_, rfl⟩
  have hne : u ≠ c := by
    rw [← hu]
    cases r with
    | nil => exact fun e => hc0 e.symm
    | cons p r => intro e; simp only [hdS] at e; rw [takeM, if_pos e] at hc; cases hc
  have h1 : (u == c) = false := beq_eq_false_iff_ne.2 hne
  have h2 : (u != c) = true := by simp [bne, h1]
  rw [hu] at HS
  clear h hc hc0 hu
  go_enter Try.func39, Try.ntmps39
  go_wp2_with (go_at_call 11; refine HS.out.mono ?_)
  rintro e w1 ⟨rfl, hst⟩
  go_wp2
  go_ret
  exact ⟨rfl, hst⟩
set_option maxHeartbeats 400000 in
theorem next_nil {T : TypeId} {x : List Value} {g : Nat} (w : World) (h : RdT T x w g []) :
    Calls Try.prog 34 #[.pointer (some ⟨g, 0, none⟩)] w fun e w' => e = .returned (.string ⟨(([] : Str)).toArray⟩) ∧ Still w w' := by
  have HS := Lib.hid (see_any w h)
  clear h
  go_enter Try.func34, Try.ntmps34
  go_wp2_with (go_at_call 11; refine HS.out.mono ?_)
  rintro e w1 ⟨rfl, hst⟩
  unfold hdS
  go_wp2
  go_ret
  exact ⟨rfl, hst⟩
set_option maxHeartbeats 400000 in
theorem next_cons {T : TypeId} {x : List Value} {g : Nat} {c : Str} {r : List Str} (w : World) (h : RdT T x w g (c :: r)) :
    Calls Try.prog 34 #[.pointer (some ⟨g, 0, none⟩)] w fun e w' => e = .returned (.string ⟨(c).toArray⟩) ∧ RdT T x w' g r ∧ w.grownBy w' (some g) := by
  have HS := Lib.hid (see_any w h)
  have hc := h.pos.1
  have HR := Lib.hid h
  cases c with
  | nil => exact absurd rfl hc
  | cons b c =>
    clear h hc
    go_enter Try.func34, Try.ntmps34
    go_wp2_with (go_at_call 11; refine HS.out.mono ?_)
    rintro e w1 ⟨rfl, hst⟩
    obtain ⟨i, hi, c1, hf, hr⟩ := (hst.rd HR.out).step
    have HR1 := Lib.hid hr
    clear hr
    unfold hdS
    go_wp2
    go_ret
    exact ⟨rfl, HR1.out, grown_still hst (grown_set (grown_refl _ _) _ _)⟩
end Go.Proofs.Ytemophfieihgaaa
