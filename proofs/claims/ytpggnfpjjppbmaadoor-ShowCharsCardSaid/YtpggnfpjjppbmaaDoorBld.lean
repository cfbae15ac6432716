/- strings.Builder: what each of its methods leaves, with the blocks that stay as they were. -/
import Derived.Test.YtpggnfpjjppbmaaDoorBase
import Derived.Lib.Builder
import Derived.Lib.AppendStr
import Derived.Lib.UnsafeStr
import Derived.Laws.Externs
set_option maxRecDepth 100000
namespace Go.Proofs.YtpggnfpjjppbmaaDoor
open Go.RowKit

/-- The type that a block's cells have. -/
def tagOf (w : World) (k : Nat) : Option TypeId := match w.heap[k]? with | some (.cells _ e _) => some e | _ => none
/-- What a block was, it still is: but for the blocks gs, and those from B on whose cells are of one of the types es. -/
structure Fr (B : Nat) (gs : List Nat) (es : List TypeId) (w w' : World) : Prop where
  os : w'.os = w.os
  tape : w'.tape = w.tape
  output : w'.output = w.output
  size : w.heap.size ≤ w'.heap.size
  block : ∀ k, k < w.heap.size → k ∉ gs → (k < B ∨ ∀ e ∈ es, tagOf w k ≠ some e) → w'.heap[k]? = w.heap[k]?
theorem Fr.refl (B gs es w) : Fr B gs es w w := ⟨rfl, rfl, rfl, Nat.le_refl _, fun _ _ _ _ => rfl⟩
theorem Fr.trans {B gs es} {a b c : World} (h : Fr B gs es a b) (k : Fr B gs es b c) : Fr B gs es a c :=
  ⟨k.os.trans h.os, k.tape.trans h.tape, k.output.trans h.output, Nat.le_trans h.size k.size, fun i hi hg ht => by
    have h1 := h.block i hi hg ht
    refine (k.block i (Nat.lt_of_lt_of_le hi h.size) hg ?_).trans h1
    unfold tagOf at ht ⊢; rw [h1]; exact ht⟩
theorem Fr.below {B gs es} {w w' : World} (h : Fr B gs es w w') (hB : B ≤ w.heap.size) (hg : ∀ g ∈ gs, B ≤ g) : Below B w w' :=
  ⟨h.os, h.tape, h.output, h.size, fun k hk => h.block k (by omega) (fun hm => by have := hg k hm; omega) (.inl hk)⟩
theorem Fr.of_below {B C gs es} {w w' : World} (h : Below C w w') (hC : w.heap.size ≤ C) : Fr B gs es w w' :=
  ⟨h.os, h.tape, h.output, h.size, fun k hk _ _ => h.block k (by omega)⟩
theorem Fr.alloc {B gs es} {a w : World} (h : Fr B gs es a w) (o : Obj) : Fr B gs es a (w.alloc o) :=
  h.trans ⟨rfl, rfl, rfl, by simp, fun k hk _ _ => Below.heap_alloc _ _ _ hk⟩
theorem Fr.drew {B gs es} {a w : World} (h : Fr B gs es a w) : Fr B gs es a w.drew := ⟨h.os, h.tape, h.output, h.size, h.block⟩
theorem Fr.drewN {B gs es} {a w : World} (h : Fr B gs es a w) (n : Nat) : Fr B gs es a (w.drewN n) := ⟨h.os, h.tape, h.output, h.size, h.block⟩
theorem Fr.setCell {B gs es} {a w : World} (h : Fr B gs es a w) {p : Addr} (hp : p.block ∈ gs) (u : Value) : Fr B gs es a (w.setCell p u) :=
  h.trans ⟨rfl, rfl, rfl, by simp [World.setCell], fun k _ hk _ => Below.heap_setCell _ _ _ _ (fun e => hk (e ▸ hp))⟩
theorem tagOf_own {w : World} {B : Nat} {e : TypeId} {sz : Nat} {v : Value} {n : Nat} {xs : List Value} (h : w.ownsRow B e sz v n xs) {k : Nat} (hk : v.ownBlock = some k) : B ≤ k ∧ tagOf w k = some e := by
  rcases h.2 with ⟨rfl, _⟩ | ⟨g, cap, cur, rfl, hb, hg, _⟩
  · simp [Value.ownBlock] at hk
  · simp [Value.ownBlock] at hk; subst hk; exact ⟨hb, by simp [tagOf, hg]⟩
theorem Fr.grown {B gs es} {a w w' : World} (h : Fr B gs es a w) {e : TypeId} {sz : Nat} {v : Value} {n : Nat} {xs : List Value} (hown : w.ownsRow B e sz v n xs) (he : e ∈ es) (hg : w.grownBy w' v.ownBlock) : Fr B gs es a w' :=
  h.trans ⟨hg.os, hg.tape, hg.output, hg.size, fun k hk _ ht => hg.block k hk (fun e' => by
    obtain ⟨h1, h2⟩ := tagOf_own hown e'.symm
    rcases ht with ht | ht
    · omega
    · exact ht e he h2)⟩
theorem Fr.mono {B gs es gs' es'} {w w' : World} (h : Fr B gs es w w') (hg : ∀ g ∈ gs, g ∈ gs') (he : ∀ e ∈ es, e ∈ es') : Fr B gs' es' w w' :=
  ⟨h.os, h.tape, h.output, h.size, fun k hk hn ht => h.block k hk (fun hm => hn (hg k hm)) (ht.imp id fun f e hm => f e (he e hm))⟩
theorem heap_lt {w : World} {k : Nat} {o : Obj} (h : w.heap[k]? = some o) : k < w.heap.size := by
  rcases Nat.lt_or_ge k w.heap.size with h1 | h1
  · exact h1
  · rw [Array.getElem?_eq_none h1] at h; cases h

/-- A builder in block g, from B on, that holds the bytes l. -/
def Bld (B g : Nat) (l : Str) (w : World) : Prop :=
  ∃ p v, w.heap[g]? = some (.cells #[p, v] 46 (0, 0)) ∧ B ≤ g ∧ (p = .pointer none ∨ p = .pointer (some ⟨g, 0, none⟩)) ∧ w.ownsRow B 5 1 v l.length (bcells l)
theorem Bld.fresh (B : Nat) (w : World) (hB : B ≤ w.heap.size) : Bld B w.heap.size [] (w.alloc (.cells #[.pointer none, .slice none 0 0] 46)) :=
  ⟨_, _, heap_alloc_new w _, hB, .inl rfl, World.ownsRow_nil _ _ _ _⟩
theorem Bld.lt {B g : Nat} {l : Str} {w : World} (h : Bld B g l w) : g < w.heap.size := by
  obtain ⟨p, v, h, _⟩ := h; exact heap_lt h
theorem Bld.le {B g : Nat} {l : Str} {w : World} (h : Bld B g l w) : B ≤ g := by
  obtain ⟨p, v, _, h, _⟩ := h; exact h
theorem Bld.keep {B g : Nat} {l : Str} {w w' : World} (h : Bld B g l w) (_hs : w.heap.size ≤ w'.heap.size) (hk : ∀ k, k < w.heap.size → w'.heap[k]? = w.heap[k]?) : Bld B g l w' := by
  obtain ⟨p, v, h1, h2, h3, h4, h5⟩ := h
  refine ⟨p, v, (hk g (heap_lt h1)).trans h1, h2, h3, h4, ?_⟩
  rcases h5 with h5 | ⟨g', cap, cur, hv, hb, hg, r⟩
  · exact .inl h5
  · exact .inr ⟨g', cap, cur, hv, hb, (hk g' (heap_lt hg)).trans hg, r⟩
theorem Bld.alloc {B g : Nat} {l : Str} {w : World} (h : Bld B g l w) (o : Obj) : Bld B g l (w.alloc o) :=
  h.keep (by simp) fun k hk => Below.heap_alloc _ _ _ hk
theorem Bld.below {B g : Nat} {l : Str} {w w' : World} (h : Bld B g l w) (hb : Below w.heap.size w w') : Bld B g l w' :=
  h.keep hb.size fun k hk => hb.block k hk

theorem bld_size : (Tryd.prog.info? 46).map (·.size) = some 2 := by kernel_rfl
theorem bld_lies : liesAt Tryd.prog Tryd.prog.depth 46 (2 / Tryd.prog.cellsOf 46) 0 46 1 = true := by kernel_rfl
theorem byte_cells : Tryd.prog.cellsOf 5 = 1 := by kernel_rfl

theorem copyCheck_any (g : Nat) (v p : Value) (w : World) (h : w.heap[g]? = some (.cells #[p, v] 46 (0, 0))) (hp : p = .pointer none ∨ p = .pointer (some ⟨g, 0, none⟩)) :
    Calls Tryd.prog 52 #[.pointer (some ⟨g, 0, none⟩)] w fun e w' => e = .returned (.tuple #[]) ∧ w'.heap[g]? = some (.cells #[.pointer (some ⟨g, 0, none⟩), v] 46 (0, 0)) ∧ (∀ k, k ≠ g → w'.heap[k]? = w.heap[k]?) ∧ w'.heap.size = w.heap.size ∧ w'.os = w.os ∧ w'.tape = w.tape ∧ w'.output = w.output := by
  obtain ⟨j, hj, hjs⟩ := Option.map_eq_some_iff.1 bld_size
  rcases hp with rfl | rfl
  · have h0 : w.cell? ⟨g, 0, none⟩ = some (.pointer none) := by simp [World.cell?, h]
    have hsh : w.shape? g = some (46, 2) := by simp [World.shape?, h]
    have hfz : w.frozen? ⟨g, 0, none⟩ = false := by simp [World.frozen?, h]
    have H := Lib.hid h; clear h
    refine Calls.mono (R := fun e w' => e = .returned (.tuple #[]) ∧ w' = w.setCell ⟨g, 0, none⟩ (.pointer (some ⟨g, 0, none⟩))) ?_ ?_
    · go_enter Tryd.func52, Tryd.ntmps52
      go_wp2
      rw [Lib.run_to_unsafe w ⟨g, 0, none⟩ Tryd.underlying43 Tryd.underlying81 hj (by rw [hjs]; decide) hsh (Nat.zero_lt_succ 1)]
      simp only [Result.andThen]
      rw [Oper.upon_value]
      go_wp2
      rw [run_callFunc_extern Tryd.func66 (by kernel_rfl) (by kernel_rfl) (by kernel_rfl) (e := Extern.AbiNoEscape.same) (by kernel_rfl)]
      rw [Lib.run_noEscape]
      simp only [Result.andThen]
      rw [Oper.upon_value]
      go_wp2
      rw [Lib.run_from_unsafe w ⟨g, 0, none⟩ Tryd.underlying81 Tryd.underlying43 hj hsh bld_lies]
      simp only [Result.andThen]
      rw [Oper.upon_value]
      go_wp2
      go_end0
      exact ⟨rfl, rfl⟩
    · rintro e w' ⟨rfl, rfl⟩
      refine ⟨rfl, ?_, fun k hk => Below.heap_setCell _ _ _ _ hk, by simp [World.setCell], rfl, rfl, rfl⟩
      simp [World.setCell, Array.getElem?_modify, H.out]
  · have h0 : w.cell? ⟨g, 0, none⟩ = some (.pointer (some ⟨g, 0, none⟩)) := by simp [World.cell?, h]
    have H := Lib.hid h; clear h
    go_enter Tryd.func52, Tryd.ntmps52
    go_wp2
    rw [Lib.run_neq_ptr_same w _ Tryd.underlying43 hj]
    go_wp2
    go_end0
    exact ⟨rfl, H.out, fun _ _ => rfl, rfl, rfl, rfl, rfl⟩
/-- What 'the buffer grown, laid back into the builder' leaves. -/
theorem bld_put {B g : Nat} {l r : Str} {w w1 w2 : World} {v v' : Value} (hB : B ≤ g)
    (h1 : w1.heap[g]? = some (.cells #[.pointer (some ⟨g, 0, none⟩), v] 46 (0, 0))) (hrest : ∀ k, k ≠ g → w1.heap[k]? = w.heap[k]?) (hsz : w1.heap.size = w.heap.size)
    (hos : w1.os = w.os ∧ w1.tape = w.tape ∧ w1.output = w.output)
    (hown : w1.ownsRow B 5 1 v l.length (bcells l)) (hown2 : w2.ownsRow B 5 1 v' (l ++ r).length (bcells (l ++ r))) (hg : w1.grownBy w2 v.ownBlock) :
    w2.heap[g]? = some (.cells #[.pointer (some ⟨g, 0, none⟩), v] 46 (0, 0)) ∧ Bld B g (l ++ r) (w2.setCell ⟨g, 1, none⟩ v') ∧ Fr B [g] [5] w (w2.setCell ⟨g, 1, none⟩ v') := by
  have hne : v.ownBlock ≠ some g := fun he => by
    have := (tagOf_own hown he).2
    simp [tagOf, h1] at this
  have hlt := heap_lt h1
  have h2 : w2.heap[g]? = some (.cells #[.pointer (some ⟨g, 0, none⟩), v] 46 (0, 0)) := (hg.block g hlt (fun e => hne e.symm)).trans h1
  have hne2 : v'.ownBlock ≠ some g := fun he => by
    have := (tagOf_own hown2 he).2
    simp [tagOf, h2] at this
  refine ⟨h2, ⟨_, v', by simp [World.setCell, Array.getElem?_modify, h2], hB, .inr rfl, ?_⟩, ?_⟩
  · exact hown2.kept (row := some g) ⟨rfl, rfl, rfl, by simp [World.setCell], fun k _ hk => Below.heap_setCell _ _ _ _ (fun e => hk (by simp [e]))⟩ (.inr hne2)
  · have f1 : Fr B [g] [5] w w1 := ⟨hos.1, hos.2.1, hos.2.2, by omega, fun k _ hk _ => hrest k (by simpa using hk)⟩
    exact (f1.grown hown (by simp) hg).setCell (p := ⟨g, 1, none⟩) (by simp) v'

theorem keep_own {B g : Nat} {w w1 : World} {v p q : Value} {n : Nat} {xs : List Value} (h : w.ownsRow B 5 1 v n xs) (h0 : w.heap[g]? = some (.cells #[p, q] 46 (0, 0)))
    (hrest : ∀ k, k ≠ g → w1.heap[k]? = w.heap[k]?) : w1.ownsRow B 5 1 v n xs := by
  refine ⟨h.1, ?_⟩
  rcases h.2 with h5 | ⟨g', cap, cur, hv, hb, hg, r⟩
  · exact .inl h5
  · refine .inr ⟨g', cap, cur, hv, hb, (hrest g' (fun e => ?_)).trans hg, r⟩
    subst e; rw [h0] at hg; simp at hg

set_option maxHeartbeats 1000000 in
theorem WriteByte_any (B g : Nat) (l : Str) (c : Int) (w : World) (h : Bld B g l w) (hl : l.length ≤ 50000000) (hBw : B ≤ w.heap.size) (hc0 : 0 ≤ c) (hc : c < 256) :
    Calls Tryd.prog 36 #[.pointer (some ⟨g, 0, none⟩), .int .u8 c] w fun e w' => e = .returned .nilIface ∧ Bld B g (l ++ [UInt8.ofNat c.toNat]) w' ∧ Fr B [g] [5] w w' := by
  obtain ⟨p, v, h0, hB, hp, hown⟩ := h
  obtain ⟨iu, hiu⟩ := info_parts u8_info
  have H0 := Lib.hid h0; clear h0
  go_enter Tryd.func36, Tryd.ntmps36
  go_wp2_with (go_at_call 52; refine (copyCheck_any g v p _ H0.out hp).mono ?_)
  rintro e w1 ⟨rfl, h1, hrest, hsz, hos⟩
  have hown1 := keep_own hown H0.out hrest
  have c0 : w1.cell? ⟨g, 0, none⟩ = some (.pointer (some ⟨g, 0, none⟩)) := by rw [Lib.cell_of_heap h1]; rfl
  have c1 : w1.cell? ⟨g, 1, none⟩ = some v := by rw [Lib.cell_of_heap h1]; rfl
  have HR : Hid (∀ k, k ≠ g → w1.heap[k]? = w.heap[k]?) := hrest
  have HO := Lib.hid hos
  have H1 := Lib.hid h1
  have HZ := Lib.hid hsz
  have hBw1 : B ≤ w1.heap.size := by omega
  clear hrest hos h1 hsz
  go_wp2_with (at_builtin; refine wpList_app1 B 5 rfl _ _ 44 rfl Tryd.underlying44 hiu rfl (by decide) rfl hown1 rfl (by first | rfl | simp) rfl (by simp [Value.oneCell']) (by omega) (by decide) hBw1 ?_)
  intro v' w2 hown2 hg2 _ _
  have hchr : bcells l ++ [Value.int .u8 c] = bcells (l ++ [UInt8.ofNat c.toNat]) := by
    simp only [bcells, List.map_append, List.map_cons, List.map_nil]
    rw [show (((UInt8.ofNat c.toNat).toNat : Nat) : Int) = c by simp [UInt8.toNat_ofNat']; omega]
  obtain ⟨k1, k2, k3⟩ := bld_put hB H1.out HR.out HZ.out ⟨HO.out.1, HO.out.2.1, HO.out.2.2⟩ hown1 (r := [UInt8.ofNat c.toNat]) (by rw [← hchr]; simpa using hown2) hg2
  have d1 : w2.cell? ⟨g, 1, none⟩ = some v := by rw [Lib.cell_of_heap k1]; rfl
  have d2 : w2.frozen? ⟨g, 1, none⟩ = false := Lib.frozen_of_heap k1 1
  clear hchr
  have K1 := Lib.hid k1; clear k1
  obtain ⟨a', c', rfl⟩ := own_form hown2
  go_wp2
  go_ret
  exact ⟨rfl, k2, k3⟩
set_option maxHeartbeats 1000000 in
theorem WriteString_any (B g : Nat) (l r : Str) (w : World) (h : Bld B g l w) (hl : l.length ≤ 50000000) (hr : r.length ≤ 50000000) (hBw : B ≤ w.heap.size) :
    Calls Tryd.prog 37 #[.pointer (some ⟨g, 0, none⟩), .string ⟨(r).toArray⟩] w fun e w' => e = .returned (.tuple #[.int .i64 r.length, .nilIface]) ∧ Bld B g (l ++ r) w' ∧ Fr B [g] [5] w w' := by
  obtain ⟨p, v, h0, hB, hp, hown⟩ := h
  obtain ⟨iu, hi, hz0, hz1, hz2⟩ := info_parts u8_info
  have H0 := Lib.hid h0; clear h0
  go_enter Tryd.func37, Tryd.ntmps37
  go_wp2_with (go_at_call 52; refine (copyCheck_any g v p _ H0.out hp).mono ?_)
  rintro e w1 ⟨rfl, h1, hrest, hsz, hos⟩
  have hown1 := keep_own hown H0.out hrest
  have c0 : w1.cell? ⟨g, 0, none⟩ = some (.pointer (some ⟨g, 0, none⟩)) := by rw [Lib.cell_of_heap h1]; rfl
  have c1 : w1.cell? ⟨g, 1, none⟩ = some v := by rw [Lib.cell_of_heap h1]; rfl
  have HR : Hid (∀ k, k ≠ g → w1.heap[k]? = w.heap[k]?) := hrest
  have HO := Lib.hid hos
  have H1 := Lib.hid h1
  have HZ := Lib.hid hsz
  have hBw1 : B ≤ w1.heap.size := by omega
  clear hrest hos h1 hsz
  go_wp2_with (at_builtin; refine Lib.wpList_append_own_string _ rfl _ _ 44 9 rfl B 5 iu Tryd.underlying44 Tryd.underlying9 hi hz0 hz1 hz2 _ _ _ rfl hown1 _ rfl (by simp only [maxLen, ba_size]; omega) (by simp only [ba_size]; omega) hBw1 ?_)
  intro v' w2 hown2 hg2 _
  obtain ⟨k1, k2, k3⟩ := bld_put hB H1.out HR.out HZ.out ⟨HO.out.1, HO.out.2.1, HO.out.2.2⟩ hown1 (r := r) (by simpa [bcells, Lib.strCells] using hown2) hg2
  have d1 : w2.cell? ⟨g, 1, none⟩ = some v := by rw [Lib.cell_of_heap k1]; rfl
  have d2 : w2.frozen? ⟨g, 1, none⟩ = false := Lib.frozen_of_heap k1 1
  have K1 := Lib.hid k1; clear k1
  obtain ⟨a', c', rfl⟩ := own_form hown2
  go_wp2
  go_ret2
  exact ⟨rfl, k2, k3⟩

set_option maxHeartbeats 1000000 in
theorem String_ne (B g : Nat) (l : Str) (w : World) (h : Bld B g l w) (h0 : l ≠ []) :
    Calls Tryd.prog 23 #[.pointer (some ⟨g, 0, none⟩)] w fun e w' => e = .returned (.string ⟨(l).toArray⟩) ∧ Below B w w' := by
  obtain ⟨p, v, hbk, hB, hp, hown⟩ := h
  have hl0 : l.length ≠ 0 := by simpa using h0
  obtain ⟨g', cap, cur, rfl, hbg, hg, hnc, hcm, hcs, htake⟩ : ∃ g' cap cur, v = .slice (some ⟨g', 0, none⟩) l.length cap ∧ B ≤ g' ∧ w.heap[g']? = some (.cells cur 5 (0, 0)) ∧ l.length ≤ cap ∧ cap ≤ maxLen ∧ cur.size = cap * 1 ∧ cur.toList.take (l.length * 1) = bcells l := by
    rcases hown.2 with ⟨_, hz⟩ | ⟨g', cap, cur, hv, r⟩
    · exact absurd hz hl0
    · exact ⟨g', cap, cur, hv, r⟩
  have c1 : w.drew.cell? ⟨g, 1, none⟩ = some (.slice (some ⟨g', 0, none⟩) l.length cap) := by
    have : w.drew.heap[g]? = some (.cells #[p, .slice (some ⟨g', 0, none⟩) l.length cap] 46 (0, 0)) := hbk
    rw [Lib.cell_of_heap this]; rfl
  have hSD : (Builtin.unsafeSliceData_ #[44] 70 #[.slice (some ⟨g', 0, none⟩) l.length cap]).run Tryd.prog w.drew = .ok (.pointer (some ⟨g', 0, none⟩)) w.drew :=
    Lib.run_unsafeSliceData_row _ _ _ _ _ _ (by omega)
  have hUS : (Builtin.unsafeString_ #[70, 3] 9 #[.pointer (some ⟨g', 0, none⟩), .int .i64 l.length]).run Tryd.prog w.drew = .ok (.string ⟨l.toArray⟩) (w.drew.freeze ⟨g', 0, none⟩ l.length) := by
    refine Lib.run_unsafeString_row w.drew 70 3 9 5 Tryd.underlying70 byte_cells g' cur.size (by have hg' : w.drew.heap[g']? = some (.cells cur 5 (0, 0)) := hg; simp [World.shape?, hg']) l h0 (by omega) (by unfold maxLen at hcm; omega) ?_
    intro j x hx
    exact hown.cells (g := g') rfl j (.int .u8 x.toNat) (by simp [bcells, List.getElem?_map, hx])
  clear hbk hg htake hcs hown
  go_enter Tryd.func23, Tryd.ntmps23
  go_wp2
  go_region
  all_goals (go_wp2; go_ret; exact ⟨rfl, Lib.below_freeze (Below.drew (Below.refl B w)) (p := ⟨g', 0, none⟩) hbg _⟩)
theorem String_nil (B g : Nat) (p : Value) (w : World) (hbk : w.heap[g]? = some (.cells #[p, .slice none 0 0] 46 (0, 0))) :
    Calls Tryd.prog 23 #[.pointer (some ⟨g, 0, none⟩)] w fun e w' => e = .returned (.string ⟨#[]⟩) ∧ Below B w w' := by
  have hUS : ∀ (W : World) (q : Option Addr), (Builtin.unsafeString_ #[70, 3] 9 #[.pointer q, .int .i64 0]).run Tryd.prog W = .ok (.string .empty) W := fun W q => Lib.run_unsafeString_none W _ _ _ q
  have c1 : w.drew.cell? ⟨g, 1, none⟩ = some (.slice none 0 0) := by
    have : w.drew.heap[g]? = some (.cells #[p, .slice none 0 0] 46 (0, 0)) := hbk
    rw [Lib.cell_of_heap this]; rfl
  have hSD : (Builtin.unsafeSliceData_ #[44] 70 #[.slice none 0 0]).run Tryd.prog w.drew = .ok (.pointer none) w.drew := rfl
  clear hbk
  go_enter Tryd.func23, Tryd.ntmps23
  go_wp2
  go_region
  all_goals (go_wp2; go_ret; exact ⟨rfl, Below.drew (Below.refl B w)⟩)
theorem String_room (B g g' cap : Nat) (p : Value) (w : World) (hc0 : cap ≠ 0) (hbk : w.heap[g]? = some (.cells #[p, .slice (some ⟨g', 0, none⟩) 0 cap] 46 (0, 0))) :
    Calls Tryd.prog 23 #[.pointer (some ⟨g, 0, none⟩)] w fun e w' => e = .returned (.string ⟨#[]⟩) ∧ Below B w w' := by
  have hUS : ∀ (W : World) (q : Option Addr), (Builtin.unsafeString_ #[70, 3] 9 #[.pointer q, .int .i64 0]).run Tryd.prog W = .ok (.string .empty) W := fun W q => Lib.run_unsafeString_none W _ _ _ q
  have c1 : w.drew.cell? ⟨g, 1, none⟩ = some (.slice (some ⟨g', 0, none⟩) 0 cap) := by
    have : w.drew.heap[g]? = some (.cells #[p, .slice (some ⟨g', 0, none⟩) 0 cap] 46 (0, 0)) := hbk
    rw [Lib.cell_of_heap this]; rfl
  have hSD : (Builtin.unsafeSliceData_ #[44] 70 #[.slice (some ⟨g', 0, none⟩) 0 cap]).run Tryd.prog w.drew = .ok (.pointer (some ⟨g', 0, none⟩)) w.drew :=
    Lib.run_unsafeSliceData_row _ _ _ _ _ _ hc0
  clear hbk hc0
  go_enter Tryd.func23, Tryd.ntmps23
  go_wp2
  go_region
  all_goals (go_wp2; go_ret; exact ⟨rfl, Below.drew (Below.refl B w)⟩)
theorem String_noroom (B g g' : Nat) (p : Value) (cur : Array Value) (w : World) (hBw : B ≤ w.heap.size) (hbk : w.heap[g]? = some (.cells #[p, .slice (some ⟨g', 0, none⟩) 0 0] 46 (0, 0))) (hg : w.heap[g']? = some (.cells cur 5 (0, 0))) :
    Calls Tryd.prog 23 #[.pointer (some ⟨g, 0, none⟩)] w fun e w' => e = .returned (.string ⟨#[]⟩) ∧ Below B w w' := by
  have hUS : ∀ (W : World) (q : Option Addr), (Builtin.unsafeString_ #[70, 3] 9 #[.pointer q, .int .i64 0]).run Tryd.prog W = .ok (.string .empty) W := fun W q => Lib.run_unsafeString_none W _ _ _ q
  have hlt : g < w.heap.size := heap_lt hbk
  have c1 : w.drew.cell? ⟨g, 1, none⟩ = some (.slice (some ⟨g', 0, none⟩) 0 0) := by
    have : w.drew.heap[g]? = some (.cells #[p, .slice (some ⟨g', 0, none⟩) 0 0] 46 (0, 0)) := hbk
    rw [Lib.cell_of_heap this]; rfl
  have hSD : (Builtin.unsafeSliceData_ #[44] 70 #[.slice (some ⟨g', 0, none⟩) 0 0]).run Tryd.prog w.drew = .ok (.pointer (some ⟨w.drew.heap.size, 0, none⟩)) (w.drew.alloc (.view ⟨g', 0, none⟩ 5)) :=
    Lib.run_unsafeSliceData_zero w.drew _ _ 5 Tryd.underlying70 ⟨g', 0, none⟩ 0 (5, cur.size) (by have hg' : w.drew.heap[g']? = some (.cells cur 5 (0, 0)) := hg; simp [World.shape?, hg'])
  have c2 : (w.drew.alloc (.view ⟨g', 0, none⟩ 5)).cell? ⟨g, 1, none⟩ = some (.slice (some ⟨g', 0, none⟩) 0 0) := by
    have : (w.drew.alloc (.view ⟨g', 0, none⟩ 5)).heap[g]? = _ := (Lib.alloc_old w.drew _ g hlt).trans hbk
    rw [Lib.cell_of_heap this]; rfl
  have c3 : (w.alloc (.view ⟨g', 0, none⟩ 5)).drew.cell? ⟨g, 1, none⟩ = some (.slice (some ⟨g', 0, none⟩) 0 0) := c2
  have c0 : w.cell? ⟨g, 1, none⟩ = some (.slice (some ⟨g', 0, none⟩) 0 0) := c1
  clear hbk hg
  go_enter Tryd.func23, Tryd.ntmps23
  go_wp2
  go_region
  all_goals (go_wp2; go_ret; exact ⟨rfl, (Below.drew (Below.refl B w)).alloc hBw _⟩)
theorem String_any (B g : Nat) (l : Str) (w : World) (h : Bld B g l w) (hBw : B ≤ w.heap.size) :
    Calls Tryd.prog 23 #[.pointer (some ⟨g, 0, none⟩)] w fun e w' => e = .returned (.string ⟨(l).toArray⟩) ∧ Below B w w' := by
  by_cases h0 : l = []
  · subst h0
    obtain ⟨p, v, hbk, hB, hp, hown⟩ := h
    rcases hown.2 with ⟨rfl, _⟩ | ⟨g', cap, cur, rfl, _, hg, _⟩
    · exact String_nil B g p w hbk
    · by_cases hc : cap = 0
      · subst hc; exact String_noroom B g g' p cur w hBw hbk hg
      · exact String_room B g g' cap p w hc hbk
  · exact String_ne B g l w h h0
end Go.Proofs.YtpggnfpjjppbmaaDoor
