/- fmts.Read: the closure that lays what text there is -/
import Derived.Test.YtlomkfennnmkdaaDoorT10
namespace Go.Proofs.YtlomkfennnmkdaaDoor
open Go.RowKit
theorem own_tag {w : World} {B : Nat} {e t : TypeId} {sz n : Nat} {v : Value} {xs : List Value} {k : Nat} {cs : Array Value} {m : Nat × Nat} (h : w.ownsRow B e sz v n xs) (hk : w.heap[k]? = some (.cells cs t m)) (hne : t ≠ e) : v.ownBlock ≠ some k := fun he => by
  have := (tagOf_own h he).2
  simp [tagOf, hk] at this; exact hne this
theorem own_own {w : World} {B B' : Nat} {e e' : TypeId} {sz sz' n n' : Nat} {v v' : Value} {xs xs' : List Value} (h : w.ownsRow B e sz v n xs) (h' : w.ownsRow B' e' sz' v' n' xs') (hne : e ≠ e') : v.ownBlock = none ∨ v.ownBlock ≠ v'.ownBlock := by
  cases hv : v.ownBlock with
  | none => exact .inl rfl
  | some g =>
    refine .inr fun he => ?_
    have h1 := (tagOf_own h hv).2
    have h2 := (tagOf_own h' he.symm).2
    rw [h1] at h2; injection h2 with h2; exact hne h2
/-- A world in which one block has been written: a row that the call owns elsewhere is kept. -/
theorem own_set {w : World} {B : Nat} {e : TypeId} {sz n : Nat} {v : Value} {xs : List Value} (h : w.ownsRow B e sz v n xs) {p : Addr} (hp : v.ownBlock ≠ some p.block) (u : Value) : (w.setCell p u).ownsRow B e sz v n xs :=
  h.kept (row := some p.block) ⟨rfl, rfl, rfl, by simp [World.setCell], fun k _ hk => Below.heap_setCell _ _ _ _ (fun e => hk (by rw [e]))⟩ (.inr hp)
theorem heap_set1 {w : World} {g : Nat} {v u : Value} {t : TypeId} (h : w.heap[g]? = some (.cells #[v] t (0, 0))) : (w.setCell ⟨g, 0, none⟩ u).heap[g]? = some (.cells #[u] t (0, 0)) := by
  simp [World.setCell, Array.getElem?_modify, h]
theorem heap_setn {w : World} {g : Nat} {p : Addr} {u : Value} {o : Obj} (h : w.heap[g]? = some o) (hp : p.block ≠ g) : (w.setCell p u).heap[g]? = some o := by
  rw [Below.heap_setCell _ _ _ _ (fun e => hp e.symm)]; exact h
theorem fm_info : (Tryd.prog.info? 41).map (fun i => (i.zero, i.size, i.bytes)) = some (some (.agg #[.int .i64 0, .int .i64 0, .int .i64 0, .string ⟨#[]⟩, .string ⟨#[]⟩]), 5, 56) := by kernel_rfl
/-- The state of the reader: the text box bt, the parts' box bo; what they hold. -/
def RS (B bt bo : Nat) (tx : Str) (fs : List Fm) (w : World) : Prop :=
  ∃ tv ov, w.heap[bt]? = some (.cells #[tv] 43 (0, 0)) ∧ w.heap[bo]? = some (.cells #[ov] 22 (0, 0)) ∧ B ≤ bt ∧ B ≤ bo ∧ w.ownsRow B 5 1 tv tx.length (bcells tx) ∧ w.ownsRow B 41 5 ov fs.length (fcells fs)
theorem fcells_snoc (fs : List Fm) (f : Fm) : fcells (fs ++ [f]) = fcells fs ++ f.cells := by simp [fcells]
theorem own_keep {w w' : World} {B : Nat} {e : TypeId} {sz n : Nat} {v : Value} {xs : List Value} (h : w.ownsRow B e sz v n xs) (hb : Below w.heap.size w w') : w'.ownsRow B e sz v n xs := by
  refine ⟨h.1, ?_⟩
  rcases h.2 with h5 | ⟨g', cap, cur, hv, hB, hg, r⟩
  · exact .inl h5
  · exact .inr ⟨g', cap, cur, hv, hB, (hb.block g' (heap_lt hg)).trans hg, r⟩
theorem RS.keep {B bt bo : Nat} {tx : Str} {fs : List Fm} {w w' : World} (h : RS B bt bo tx fs w) (hb : Below w.heap.size w w') : RS B bt bo tx fs w' := by
  obtain ⟨tv, ov, h1, h2, h3, h4, h5, h6⟩ := h
  exact ⟨tv, ov, (hb.block _ (heap_lt h1)).trans h1, (hb.block _ (heap_lt h2)).trans h2, h3, h4, own_keep h5 hb, own_keep h6 hb⟩
set_option maxHeartbeats 1000000 in
theorem flush_any (B bt bo : Nat) (tx : Str) (fs : List Fm) (w0 w : World) (h : RS B bt bo tx fs w0) (hw : Below w0.heap.size w0 w) (hB : B ≤ w.heap.size) (htx : tx.length ≤ 1000000) (hfs : fs.length ≤ 1000000) :
    Calls Tryd.prog 29 #[.pointer (some ⟨bt, 0, none⟩), .pointer (some ⟨bo, 0, none⟩)] w fun e w' => e = .returned (.tuple #[]) ∧ RS B bt bo [] (flushF tx fs) w' ∧ Below B w w' ∧ ∀ k, w0.heap.size ≤ k → k < w.heap.size → w'.heap[k]? = w.heap[k]? := by
  obtain ⟨tv, ov, h1, h2, hbt, hbo, ht, ho⟩ := h
  have hlt1 := heap_lt h1
  have hlt2 := heap_lt h2
  have hrow : ∀ g, ov.ownBlock = some g → g < w0.heap.size := fun g hg => (ho.lt g hg).2
  replace h1 := (hw.block _ hlt1).trans h1
  replace h2 := (hw.block _ hlt2).trans h2
  replace ht := own_keep ht hw
  replace ho := own_keep ho hw
  have HROW := Lib.hid hrow
  clear hrow
  obtain ⟨ta, tc, rfl⟩ := own_form ht
  obtain ⟨oa, oc, rfl⟩ := own_form ho
  have c1 : w.cell? ⟨bt, 0, none⟩ = some (.slice ta tx.length tc) := by rw [Lib.cell_of_heap h1]; rfl
  have c2 : w.cell? ⟨bo, 0, none⟩ = some (.slice oa fs.length oc) := by rw [Lib.cell_of_heap h2]; rfl
  have f1 : w.frozen? ⟨bt, 0, none⟩ = false := Lib.frozen_of_heap h1 0
  have hne : bt ≠ bo := fun e => by subst e; rw [h1] at h2; simp at h2
  have H1 := Lib.hid h1
  have H2 := Lib.hid h2
  have HNE := Lib.hid hne
  clear h1 h2 hne
  by_cases h0 : tx = []
  · subst h0
    simp only [List.length_nil] at ht c1
    go_enter Tryd.func29, Tryd.ntmps29
    go_wp2
    go_end0
    refine ⟨rfl, ⟨_, _, H1.out, H2.out, hbt, hbo, ht, ho⟩, Below.refl _ _, fun _ _ _ => rfl⟩
  · have hl : 0 < tx.length := List.length_pos_iff.2 h0
    have hcv := conv_own (P := Tryd.prog) (src := 43) (dst := 9) Tryd.underlying43 Tryd.underlying5 Tryd.underlying9 ht
    obtain ⟨iu, hiu⟩ := info_parts fm_info
    have H0 := Lib.hid h0; clear h0
    go_enter Tryd.func29, Tryd.ntmps29
    go_wp2_with (at_builtin; refine wpList_app1 B 41 rfl _ _ 22 rfl Tryd.underlying22 hiu rfl (by decide) rfl ho rfl (by first | rfl | simp) rfl (by simp [Value.oneCell']) (by omega) (by decide) hB ?_)
    intro v' w1 ho1 hg1 hb1 _
    have g1 : w1.heap[bt]? = some (.cells #[.slice ta tx.length tc] 43 (0, 0)) := (hg1.block bt (heap_lt H1.out) (fun e => own_tag ho H1.out (by decide) e.symm)).trans H1.out
    have g2 : w1.heap[bo]? = some (.cells #[.slice oa fs.length oc] 22 (0, 0)) := (hg1.block bo (heap_lt H2.out) (fun e => own_tag ho H2.out (by decide) e.symm)).trans H2.out
    obtain ⟨va, vc, rfl⟩ := own_form ho1
    have d1 : w1.cell? ⟨bt, 0, none⟩ = some (.slice ta tx.length tc) := by rw [Lib.cell_of_heap g1]; rfl
    have d2 : w1.cell? ⟨bo, 0, none⟩ = some (.slice oa fs.length oc) := by rw [Lib.cell_of_heap g2]; rfl
    have d3 : w1.frozen? ⟨bt, 0, none⟩ = false := Lib.frozen_of_heap g1 0
    have d4 : w1.frozen? ⟨bo, 0, none⟩ = false := Lib.frozen_of_heap g2 0
    have hR : RS B bt bo [] (flushF tx fs) ((w1.setCell ⟨bo, 0, none⟩ (.slice va (fs.length + 1) vc)).setCell ⟨bt, 0, none⟩ (.slice none 0 0)) := by
      have hz : flushF tx fs = fs ++ [⟨0, 0, 0, tx, []⟩] := if_neg H0.out
      refine ⟨.slice none 0 0, .slice va (fs.length + 1) vc, heap_set1 (heap_setn g1 (fun e => HNE.out e.symm)), heap_setn (heap_set1 g2) HNE.out, hbt, hbo, World.ownsRow_nil _ _ _ _, ?_⟩
      rw [hz, fcells_snoc, List.length_append]
      exact own_set (own_set (by simpa [Fm.cells] using ho1) (own_tag ho1 g2 (by decide)) _) (own_tag (own_set ho1 (own_tag ho1 g2 (by decide)) (.slice va (fs.length + 1) vc)) (heap_setn (p := ⟨bo, 0, none⟩) (u := .slice va (fs.length + 1) vc) g1 (fun e => HNE.out e.symm)) (by decide)) _
    have hbl : Below B w ((w1.setCell ⟨bo, 0, none⟩ (.slice va (fs.length + 1) vc)).setCell ⟨bt, 0, none⟩ (.slice none 0 0)) := (hb1.setCell (p := ⟨bo, 0, none⟩) hbo _).setCell (p := ⟨bt, 0, none⟩) hbt _
    have hst : ∀ k, w0.heap.size ≤ k → k < w.heap.size → ((w1.setCell ⟨bo, 0, none⟩ (.slice va (fs.length + 1) vc)).setCell ⟨bt, 0, none⟩ (.slice none 0 0)).heap[k]? = w.heap[k]? := fun k hk1 hk2 => by
      rw [Below.heap_setCell _ _ _ _ (by show k ≠ bt; omega), Below.heap_setCell _ _ _ _ (by show k ≠ bo; omega)]
      exact hg1.block k hk2 (fun e => by have := HROW.out k e.symm; omega)
    have HST := Lib.hid hst
    have HRR := Lib.hid hR
    have HBL := Lib.hid hbl
    have hbb : ((bo == bt) = false) := by rw [beq_eq_false_iff_ne]; exact fun e => HNE.out e.symm
    have hne1 : ¬ bo = bt := fun e => HNE.out e.symm
    have hne2 : ¬ bt = bo := HNE.out
    clear hR hbl g1 g2 hst
    go_wp2
    go_end0
    exact ⟨rfl, HRR.out, HBL.out, HST.out⟩
end Go.Proofs.YtlomkfennnmkdaaDoor
