/- walks of rxread: group -/
import Derived.Test.YtemophfieihgaaaX9
import Derived.Test.YtemophfieihgaaaPG
set_option maxRecDepth 100000
namespace Go.Proofs.Ytemophfieihgaaa
open Go.RowKit
def errOk (res : Res) : Prop := ∀ q, res = .error q → q ≠ 0
theorem errOk_err {q : Int} (h : q ≠ 0) : errOk (.error q) := fun _ e => by injection e with e; rw [← e]; exact h
theorem errOk_ok (y : Rx × List Str) : errOk (.ok y) := fun _ e => by cases e
theorem esc_err (r : List Str) : errOk (escM r) := by
  cases r with
  | nil => exact errOk_err (by decide)
  | cons c r =>
    simp only [escM]
    cases namedS c with
    | some rows => exact errOk_ok _
    | none =>
      cases bigS c with
      | some rows => exact errOk_ok _
      | none =>
        cases plainM c with
        | none => exact errOk_err (by decide)
        | some t => exact errOk_ok _
theorem class_err (r : List Str) : errOk (classM r) := by
  unfold classM
  simp only
  generalize classL _ _ _ = q
  cases q with
  | none => exact errOk_err (by decide)
  | some y => exact errOk_ok _
theorem quant_err (x : Rx) (r : List Str) : errOk (quantM x r) := by
  cases r with
  | nil => exact errOk_ok _
  | cons c r =>
    simp only [quantM]
    by_cases h1 : c = [42]
    · rw [if_pos h1]; exact errOk_ok _
    rw [if_neg h1]
    by_cases h2 : c = [43]
    · rw [if_pos h2]; exact errOk_ok _
    rw [if_neg h2]
    by_cases h3 : c = [63]
    · rw [if_pos h3]; exact errOk_ok _
    rw [if_neg h3]
    by_cases h4 : c = [123]
    · rw [if_pos h4]
      cases boundsM r with
      | none => exact errOk_err (by decide)
      | some y => exact errOk_ok _
    · rw [if_neg h4]; exact errOk_ok _
theorem group_err {pat : List Str → Nat → Res} (hp : ∀ r d, errOk (pat r d)) (r : List Str) (d : Nat) : errOk (groupM pat r d) := by
  unfold groupM
  by_cases hd : 16 ≤ d
  · rw [if_pos hd]; exact errOk_err (by decide)
  rw [if_neg hd]
  cases groupK r with
  | none => exact errOk_err (by decide)
  | some y =>
    simp only
    cases hx : pat y.2 (d + 1) with
    | error e => exact fun q hq => hp _ _ _ (hx.trans hq)
    | ok z =>
      simp only
      cases takeM [41] z.2 with
      | none => exact errOk_err (by decide)
      | some r => exact errOk_ok _
theorem atom_err {pat : List Str → Nat → Res} (hp : ∀ r d, errOk (pat r d)) (r : List Str) (d : Nat) : errOk (atomM pat r d) := by
  cases r with
  | nil => exact errOk_err (by decide)
  | cons c r =>
    simp only [atomM]
    by_cases h1 : c = [46]
    · rw [if_pos h1]; exact errOk_ok _
    rw [if_neg h1]
    by_cases h2 : c = [40]
    · rw [if_pos h2]; exact group_err hp _ _
    rw [if_neg h2]
    by_cases h3 : c = [91]
    · rw [if_pos h3]; exact class_err _
    rw [if_neg h3]
    by_cases h4 : c = [92]
    · rw [if_pos h4]; exact esc_err _
    rw [if_neg h4]
    by_cases h5 : noAtom c = true
    · rw [if_pos h5]; exact errOk_err (by decide)
    · rw [if_neg h5]; exact errOk_ok _
theorem term_err {pat : List Str → Nat → Res} (hp : ∀ r d, errOk (pat r d)) (r : List Str) (d : Nat) : errOk (termM pat r d) := by
  unfold termM
  cases edgeM r with
  | some y => exact errOk_ok _
  | none =>
    simp only
    cases hx : atomM pat r d with
    | error e => exact fun q hq => atom_err hp _ _ _ (hx.trans hq)
    | ok y => exact quant_err _ _
theorem patL_err {trm : List Str → Res} (ht : ∀ r, errOk (trm r)) : ∀ (n : Nat) (alts terms : List Rx) (r : List Str), errOk (patL trm n alts terms r)
  | 0, _, _, _ => errOk_err (by decide)
  | n + 1, alts, terms, [] => errOk_ok _
  | n + 1, alts, terms, c :: r => by
    simp only [patL]
    by_cases h1 : c = [41]
    · rw [if_pos h1]; exact errOk_ok _
    rw [if_neg h1]
    by_cases h2 : c = [124]
    · rw [if_pos h2]; exact patL_err ht n _ _ _
    rw [if_neg h2]
    cases hx : trm (c :: r) with
    | error e => exact fun q hq => ht _ _ (hx.trans hq)
    | ok y => exact patL_err ht n _ _ _
theorem pat_err : ∀ (n : Nat) (r : List Str) (d : Nat), errOk (patF n r d)
  | 0, _, _ => errOk_err (by decide)
  | n + 1, r, d => patL_err (fun r => term_err (pat_err n) r d) _ _ _ _
def PatC (n : Nat) : Prop := ∀ (g d : Nat) (r : List Str) (w : World), Rd w g r d → r.length < n → d ≤ 16 →
  Calls Try.prog 10 #[.pointer (some ⟨g, 0, none⟩)] w fun e w' => ResPost g d w.heap.size w (patF n r d) e w'
theorem RdT.setDeep {T : TypeId} {u : Value} {w : World} {g : Nat} {r : List Str} (h : RdT T [u] w g r) (v : Value) : RdT T [v] (w.setCell ⟨g, 2, none⟩ v) g r := by
  obtain ⟨a, c, l, i, h1, h2, h3⟩ := h
  refine ⟨a, c, l, i, ?_, h2.keep (Kept.setLow _ fun b hb => Nat.ne_of_lt hb), h3⟩
  rw [heap_setCell_same w _ _ _ _ _ h1]; rfl
theorem RdT.free2 {T : TypeId} {u : Value} {w : World} {g : Nat} {r : List Str} (h : RdT T [u] w g r) : w.frozen? ⟨g, 2, none⟩ = false := by
  obtain ⟨a, c, l, i, h1, _⟩ := h
  unfold World.frozen?; rw [h1]; rfl
def set8 (w : World) (b : Nat) (u0 u1 u2 u3 u4 u5 u6 u7 : Value) : World :=
  (((((((w.setCell ⟨b, 0, none⟩ u0).setCell ⟨b, 1, none⟩ u1).setCell ⟨b, 2, none⟩ u2).setCell ⟨b, 3, none⟩ u3).setCell ⟨b, 4, none⟩ u4).setCell ⟨b, 5, none⟩ u5).setCell ⟨b, 6, none⟩ u6).setCell ⟨b, 7, none⟩ u7
theorem set8_kept {S : Nat → Prop} (w : World) (b : Nat) {u0 u1 u2 u3 u4 u5 u6 u7 : Value} (hS : ∀ k, S k → k ≠ b) : Kept S w (set8 w b u0 u1 u2 u3 u4 u5 u6 u7) := by
  have h : ∀ {w' : World} (a : Addr) (u : Value), a.block = b → Kept S w w' → Kept S w (w'.setCell a u) := fun a u ha hk => hk.trans (Kept.setLow u fun k hk => by rw [ha]; exact hS k hk)
  unfold set8
  iterate 8 (refine h _ _ rfl ?_)
  exact ⟨Nat.le_refl _, fun _ _ _ => rfl⟩
theorem set8_size (w : World) (b : Nat) {u0 u1 u2 u3 u4 u5 u6 u7 : Value} : (set8 w b u0 u1 u2 u3 u4 u5 u6 u7).heap.size = w.heap.size := by unfold set8; simp
theorem grown_set8 {w0 w : World} {row : Option Nat} {b : Nat} {u0 u1 u2 u3 u4 u5 u6 u7 : Value} (h : w0.grownBy w row) (hb : w0.heap.size ≤ b) : w0.grownBy (set8 w b u0 u1 u2 u3 u4 u5 u6 u7) row := by
  unfold set8
  iterate 8 (refine grown_setNew ?_ hb _)
  exact h
theorem RdT.set8 {T : TypeId} {x : List Value} {w : World} {g : Nat} {r : List Str} {b : Nat} {u0 u1 u2 u3 u4 u5 u6 u7 : Value} (h : RdT T x w g r) (hb : g < b) : RdT T x (set8 w b u0 u1 u2 u3 u4 u5 u6 u7) g r := by
  unfold Go.Proofs.Ytemophfieihgaaa.set8
  iterate 8 (refine RdT.setHi ?_ hb _)
  exact h
theorem grown_alloc {w0 w : World} {row : Option Nat} (h : w0.grownBy w row) (o : Obj) : w0.grownBy (w.alloc o) row := grown_trans h (grown_of_below ((Below.refl _ _).alloc (Nat.le_refl _) _) _)
theorem set8_new (w : World) (b : Nat) {u0 u1 u2 u3 u4 u5 u6 u7 : Value} {cs : Array Value} {t : TypeId} : ((set8 w b u0 u1 u2 u3 u4 u5 u6 u7).alloc (.cells cs t)).heap[w.heap.size]? = some (.cells cs t (0, 0)) := by
  have := heap_alloc_new (set8 w b u0 u1 u2 u3 u4 u5 u6 u7) (.cells cs t)
  rw [set8_size] at this; exact this
set_option maxHeartbeats 1000000 in
theorem rgroup_any {n : Nat} (hp : PatC n) {g d : Nat} {r : List Str} (w : World) (h : Rd w g r d) (hl : r.length < n) (hd : d ≤ 16) :
    Calls Try.prog 35 #[.pointer (some ⟨g, 0, none⟩)] w fun e w' => ResPost g d w.heap.size w (groupM (patF n) r d) e w' := by
  obtain ⟨R, hR⟩ : ∃ R, groupM (patF n) r d = R := ⟨_, rfl⟩
  rw [hR]
  unfold groupM at hR
  have HP := Lib.hid hp
  clear hp
  by_cases hd16 : 16 ≤ d
  · rw [if_pos hd16] at hR
    have HR := Lib.hid hR
    clear hR
    have c2 := (h.later ((Below.refl w.heap.size w).alloc (Nat.le_refl _) (.cells #[.int .i64 0, .string ⟨#[]⟩, .bool false, .slice none 0 0, .int .i64 0, .int .i64 0, .bool false, .slice none 0 0] 26))).cell2
    have hd16' : d = 16 := by omega
    have hde : decide ((16 : Int) ≤ (d : Int)) = true := by simp; omega
    obtain ⟨w0, hw0⟩ : ∃ w0, w0 = w.alloc (.cells #[.int .i64 0, .string ⟨#[]⟩, .bool false, .slice none 0 0, .int .i64 0, .int .i64 0, .bool false, .slice none 0 0] 26) := ⟨_, rfl⟩
    obtain ⟨hb0, hz0, hby0⟩ := alloc1 w hw0
    have HRD := Lib.hid (h.later hb0)
    rw [hw0] at HRD
    have HW0 := Lib.hid hw0
    have HBY0 := Lib.hid hby0
    have hgg : w.grownBy w0 (some g) := grown_of_below hb0 _
    have hgr : g < w.heap.size := h.lt
    clear hw0 hby0 h
    have hby := HBY0.out
    rw [HW0.out] at hby hgg
    obtain ⟨f0, f1, f2, f3, f4, f5, f6, f7, f8⟩ := bx_cells (c := []) hby
    clear hby hd16'
    go_enter Try.func35, Try.ntmps35
    go_wp2
    refine bodyPost_ret (v := .tuple #[.agg #[.int .i64 0, .string ⟨([]).toArray⟩, .bool false, .slice none 0 0, .int .i64 0, .int .i64 0, .bool false, .slice none 0 0], .int .i64 8]) (by simp [results, Try.results35, go_sem, f0, f1, f2, f3, f4, f5, f6, f7]) rfl ?_
    refine ⟨?_, ?_⟩
    · iterate 0 (refine grown_setNew ?_ (by first | omega | (simp; done) | (simp; omega)) _)
      exact hgg
    · rw [← HR.out]
      refine ⟨rfl, ?_⟩
      iterate 0 (refine RdE.setHi ?_ (by first | omega | (simp; done) | (simp; omega)) _)
      exact ⟨_, HRD.out⟩
  rw [if_neg hd16] at hR
  cases h1 : takeM [63] r with
  | none =>
    simp only [groupK, h1] at hR
    have HR := Lib.hid hR
    have H1 := Lib.hid h1
    clear hR h1
    have c2 := (h.later ((Below.refl w.heap.size w).alloc (Nat.le_refl _) (.cells #[.int .i64 0, .string ⟨#[]⟩, .bool false, .slice none 0 0, .int .i64 0, .int .i64 0, .bool false, .slice none 0 0] 26))).cell2
    obtain ⟨w0, hw0⟩ : ∃ w0, w0 = w.alloc (.cells #[.int .i64 0, .string ⟨#[]⟩, .bool false, .slice none 0 0, .int .i64 0, .int .i64 0, .bool false, .slice none 0 0] 26) := ⟨_, rfl⟩
    obtain ⟨hb0, hz0, hby0⟩ := alloc1 w hw0
    have HRD := Lib.hid (h.later hb0)
    rw [hw0] at HRD
    have HW0 := Lib.hid hw0
    have HBY0 := Lib.hid hby0
    have hgg : w.grownBy w0 (some g) := grown_of_below hb0 _
    have hgr : g < w.heap.size := h.lt
    clear hw0 hby0 h
    go_enter Try.func35, Try.ntmps35
    go_wp2_with (go_at_call 39; refine (take_none _ HRD.out H1.out (by simp)).mono ?_)
    rintro e w1 ⟨rfl, hrd1, hq1⟩
    rw [← HW0.out] at hq1
    have hg1 := grown_trans hgg hq1
    have HBY1 := Lib.hid (box_grown HBY0.out hq1 (by omega))
    have hz1 := hq1.size
    have HRD1 := Lib.hid hrd1
    clear hrd1 hq1 c2
    have c2 := (HRD1.out).cell2
    have hf2 := (HRD1.out).free2
    have hrdd : Rd ((w1).setCell ⟨g, 2, none⟩ (.int .i64 ((d : Int) + 1))) g r (d + 1) := (HRD1.out).setDeep _
    have HRDD := Lib.hid hrdd
    have hgd := grown_set hg1 2 (.int .i64 ((d : Int) + 1))
    have hbyd := box_other HBY1.out (a := ⟨g, 2, none⟩) (by first | omega | (simp; done) | (simp; omega)) (.int .i64 ((d : Int) + 1))
    have HBYD := Lib.hid hbyd
    have HPAT := Lib.hid (HP.out g (d + 1) r _ HRDD.out (by omega) (by omega))
    clear hrdd hbyd
    go_wp2_with (go_at_call 10; refine HPAT.out.mono ?_)
    rintro e w5 hq
    clear c2 hf2 HPAT
    cases hpr : patF n r (d + 1) with
    | error q =>
      rw [hpr] at hq
      obtain ⟨hq5, rfl, r9, hrd9⟩ := hq
      have hq0 : q ≠ 0 := pat_err n r (d + 1) q hpr
      have HR2 : Hid (Except.error q = R) := Lib.hid (by rw [← HR.out]; simp only [hpr])
      have HR := HR2
      have hg5 := grown_trans hgd hq5
      have hby5 := box_grown HBYD.out hq5 (by omega)
      have hb6 : Below w5.heap.size w5 (w5.alloc (.cells #[.int .i64 0, .string ⟨#[]⟩, .bool false, .slice none 0 0, .int .i64 0, .int .i64 0, .bool false, .slice none 0 0] 26)) := (Below.refl _ _).alloc (Nat.le_refl _) _
      have hrd6 := hrd9.later hb6
      have c6 := hrd6.cell2
      have hf6 := hrd6.free2
      have HRD7 := Lib.hid (hrd6.setDeep (.int .i64 (d : Int)))
      have hg7 := grown_set (grown_trans hg5 (grown_of_below hb6 (some g))) 2 (.int .i64 (d : Int))
      have ed : ((d + 1 : Nat) : Int) - 1 = d := by omega
      have ne1 : (q != 0) = true := by simp [bne, hq0]
      obtain ⟨f0, f1, f2, f3, f4, f5, f6, f7, f8⟩ := bx_cells (c := []) (box_other ((hb6.block _ (heap_lt hby5)).trans hby5) (a := ⟨g, 2, none⟩) (by first | omega | (simp; done) | (simp; omega)) (.int .i64 (d : Int)))
      clear hpr hby5 hrd9 hrd6 hb6
      unfold rxv0
      go_wp2
      refine bodyPost_ret (v := .tuple #[.agg #[.int .i64 0, .string ⟨([]).toArray⟩, .bool false, .slice none 0 0, .int .i64 0, .int .i64 0, .bool false, .slice none 0 0], .int .i64 q]) (by simp [results, Try.results35, go_sem, f0, f1, f2, f3, f4, f5, f6, f7]) rfl ?_
      refine ⟨?_, ?_⟩
      · iterate 8 (refine grown_setNew ?_ (by first | omega | (simp; done) | (simp; omega)) _)
        exact hg7
      · rw [← HR.out]
        refine ⟨rfl, ?_⟩
        iterate 8 (refine RdE.setHi ?_ (by first | omega | (simp; done) | (simp; omega)) _)
        exact ⟨_, HRD7.out⟩
    | ok y =>
      obtain ⟨x, r3⟩ := y
      rw [hpr] at hq
      obtain ⟨hq5, cc, rfl, hxv, hrd5⟩ := hq
      have hg5 := grown_trans hgd hq5
      have hzd := hgd.size
      have hz5 := hq5.size
      have hby5 := box_grown HBYD.out hq5 (by omega)
      have HBX5 := Lib.hid hby5
      obtain ⟨k, c, ng, rs, lo, hi, lz, ks⟩ := x
      have hxv0 := hxv
      obtain ⟨ra, rc, ka, kc, rfl, hrs, hks⟩ := hxv.open_
      clear hrs hks hxv hby5
      have HXV := Lib.hid (hxv0.mono (S' := fun b => w.heap.size ≤ b ∧ b ≠ w.heap.size) fun b hb hlt => by have := hgd.size; simp only [World.size_setCell] at hb; constructor <;> omega)
      clear hxv0
      unfold rxc at HXV ⊢
      obtain ⟨w6, hw6⟩ : ∃ w6, w6 = (w5.alloc (.cells #[.int .i64 k, .string ⟨(c).toArray⟩, .bool ng, .slice ra rs.length rc, .int .i64 lo, .int .i64 hi, .bool lz, .slice ka ks.length kc] 26)).setCell ⟨g, 2, none⟩ (.int .i64 (d : Int)) := ⟨_, rfl⟩
      have hb6 : Below w5.heap.size w5 (w5.alloc (.cells #[.int .i64 k, .string ⟨(c).toArray⟩, .bool ng, .slice ra rs.length rc, .int .i64 lo, .int .i64 hi, .bool lz, .slice ka ks.length kc] 26)) := (Below.refl _ _).alloc (Nat.le_refl _) _
      have hrd6 := hrd5.later hb6
      have c6 := hrd6.cell2
      have hf6 := hrd6.free2
      have hrd7 : Rd w6 g r3 d := hw6 ▸ hrd6.setDeep (.int .i64 (d : Int))
      have hg7 : w.grownBy w6 (some g) := hw6 ▸ grown_set (grown_trans hg5 (grown_of_below hb6 (some g))) 2 (.int .i64 (d : Int))
      have hby7 : w6.heap[w.heap.size]? = some (.cells #[.int .i64 0, .string ⟨#[]⟩, .bool false, .slice none 0 0, .int .i64 0, .int .i64 0, .bool false, .slice none 0 0] 26 (0, 0)) := hw6 ▸ box_other ((hb6.block _ (heap_lt HBX5.out)).trans HBX5.out) (a := ⟨g, 2, none⟩) (by first | omega | (simp; done) | (simp; omega)) (.int .i64 (d : Int))
      have hbz7 : w6.heap[w5.heap.size]? = some (.cells #[.int .i64 k, .string ⟨(c).toArray⟩, .bool ng, .slice ra rs.length rc, .int .i64 lo, .int .i64 hi, .bool lz, .slice ka ks.length kc] 26 (0, 0)) := hw6 ▸ box_other (heap_alloc_new w5 _) (a := ⟨g, 2, none⟩) (by first | omega | (simp; done) | (simp; omega)) (.int .i64 (d : Int))
      have hxv7 : RxV w6 (fun b => w.heap.size ≤ b ∧ b ≠ w.heap.size) _ _ := hw6 ▸ (HXV.out.later hb6).keep (Kept.setLow (a := ⟨g, 2, none⟩) (.int .i64 (d : Int)) (fun b hb => by have : w.heap.size ≤ b ∧ b ≠ w.heap.size := hb; first | omega | (simp; done) | (simp; omega)))
      have HRD7 := Lib.hid hrd7
      have HBY7 := Lib.hid hby7
      have HBZ7 := Lib.hid hbz7
      have HXV7 := Lib.hid hxv7
      have hz7 : w5.heap.size + 1 ≤ w6.heap.size := by rw [hw6]; simp
      have ed : ((d + 1 : Nat) : Int) - 1 = d := by omega
      clear hrd5 hrd6 hrd7 hby7 hbz7 hxv7 HXV HBX5 hb6
      cases ht : takeM [41] r3 with
      | none =>
        have HR2 : Hid (Except.error 10 = R) := Lib.hid (by rw [← HR.out]; simp only [hpr, ht])
        have HR := HR2
        have HT := Lib.hid ht
        have HRD8 := HRD7
        rw [hw6] at HRD8
        have HW6 := Lib.hid hw6
        clear hpr ht hw6
        go_wp2_with (go_at_call 39; refine (take_none _ HRD8.out HT.out (by simp)).mono ?_)
        rintro e w9 ⟨rfl, hrd9, hq9⟩
        rw [← HW6.out] at hq9
        have hg9 := grown_trans hg7 hq9
        have HRD9 := Lib.hid hrd9
        obtain ⟨f0, f1, f2, f3, f4, f5, f6, f7, f8⟩ := bx_cells (c := []) (box_grown HBY7.out hq9 (by omega))
        clear hrd9 hq9 c6 hf6
        go_wp2
        refine bodyPost_ret (v := .tuple #[.agg #[.int .i64 0, .string ⟨([]).toArray⟩, .bool false, .slice none 0 0, .int .i64 0, .int .i64 0, .bool false, .slice none 0 0], .int .i64 10]) (by simp [results, Try.results35, go_sem, f0, f1, f2, f3, f4, f5, f6, f7]) rfl ?_
        refine ⟨?_, ?_⟩
        · iterate 8 (refine grown_setNew ?_ (by first | omega | (simp; done) | (simp; omega)) _)
          exact hg9
        · rw [← HR.out]
          refine ⟨rfl, ?_⟩
          iterate 8 (refine RdE.setHi ?_ (by first | omega | (simp; done) | (simp; omega)) _)
          exact ⟨_, HRD9.out⟩
      | some r4 =>
        have HR2 : Hid (Except.ok (grpR 5 (.mk k c ng rs lo hi lz ks), r4) = R) := Lib.hid (by rw [← HR.out]; simp only [hpr, ht])
        have HR := HR2
        have HT := Lib.hid ht
        have HRD8 := HRD7
        rw [hw6] at HRD8
        have HW6 := Lib.hid hw6
        clear hpr ht hw6
        go_wp2_with (go_at_call 39; refine (take_some _ HRD8.out HT.out).mono ?_)
        rintro e w9 ⟨rfl, hrd9, hq9⟩
        rw [← HW6.out] at hq9
        have hg9 := grown_trans hg7 hq9
        have hz9 := hq9.size
        have hne9 : w.heap.size ≠ w9.heap.size := by omega
        have hlt9 : w.heap.size < w9.heap.size := by omega
        have hby9 := box_grown HBY7.out hq9 (by omega)
        have HRD9 := Lib.hid hrd9
        obtain ⟨f0, f1, f2, f3, f4, f5, f6, f7, f8⟩ := bx_cells (c := []) hby9
        obtain ⟨e0, e1, e2, e3, e4, e5, e6, e7, e8⟩ := bx_cells (box_grown HBZ7.out hq9 (by omega))
        have HXV9 := Lib.hid (HXV7.out.keep (Kept.grown hq9 fun b hb => by have : w.heap.size ≤ b ∧ b ≠ w.heap.size := hb; omega))
        clear hrd9 hq9 c6 hf6 hby9
        go_wp2
        refine bodyPost_ret (v := .tuple #[.agg #[.int .i64 5, .string ⟨#[]⟩, .bool false, .slice none 0 0, .int .i64 0, .int .i64 0, .bool false, .slice (some ⟨w9.heap.size, 0, none⟩) 1 1], .int .i64 0]) (by simp [results, Try.results35, go_sem, f0, f1, f2, f3, f4, f5, f6, f7, hlt9]) rfl ?_
        refine ⟨grown_alloc (grown_set8 hg9 (Nat.le_refl _)) _, ?_⟩
        rw [← HR.out]
        refine ⟨rxc 5 [] false none ([] : List Row).length 0 0 0 false (some ⟨w9.heap.size, 0, none⟩) [Rx.mk k c ng rs lo hi lz ks].length 1, rfl, RxV.mono (S := fun b => w.heap.size ≤ b ∧ b ≠ w.heap.size) (fun b hb _ => hb.1) (RxV.close (SlS.none_ _ _ _ _) (RxSl.one ((HXV9.out.keep (set8_kept w9 w.heap.size fun b hb => hb.2)).later ((Below.refl _ _).alloc (Nat.le_refl _) _)) (set8_new w9 w.heap.size) ⟨by omega, by omega⟩)), ?_⟩
        exact (HRD9.out.set8 hgr).later ((Below.refl _ _).alloc (Nat.le_refl _) _)
  | some r1 =>
    cases h2 : takeM [58] r1 with
    | none =>
      simp only [groupK, h1, h2] at hR
      have HR := Lib.hid hR
      have H1 := Lib.hid h1
      have H2 := Lib.hid h2
      clear hR h1 h2
      have c2 := (h.later ((Below.refl w.heap.size w).alloc (Nat.le_refl _) (.cells #[.int .i64 0, .string ⟨#[]⟩, .bool false, .slice none 0 0, .int .i64 0, .int .i64 0, .bool false, .slice none 0 0] 26))).cell2
      obtain ⟨w0, hw0⟩ : ∃ w0, w0 = w.alloc (.cells #[.int .i64 0, .string ⟨#[]⟩, .bool false, .slice none 0 0, .int .i64 0, .int .i64 0, .bool false, .slice none 0 0] 26) := ⟨_, rfl⟩
      obtain ⟨hb0, hz0, hby0⟩ := alloc1 w hw0
      have HRD := Lib.hid (h.later hb0)
      rw [hw0] at HRD
      have HW0 := Lib.hid hw0
      have HBY0 := Lib.hid hby0
      have hgg : w.grownBy w0 (some g) := grown_of_below hb0 _
      have hgr : g < w.heap.size := h.lt
      clear hw0 hby0 h
      go_enter Try.func35, Try.ntmps35
      go_wp2_with (go_at_call 39; refine (take_some _ HRD.out H1.out).mono ?_)
      rintro e w1 ⟨rfl, hrd1, hq1⟩
      rw [← HW0.out] at hq1
      have hg1 := grown_trans hgg hq1
      have HBY1 := Lib.hid (box_grown HBY0.out hq1 (by omega))
      have HRD1 := Lib.hid hrd1
      clear hrd1 hq1 c2
      go_wp2_with (go_at_call 39; refine (take_none _ HRD1.out H2.out (by simp)).mono ?_)
      rintro e w2 ⟨rfl, hrd2, hq2⟩
      have hg2 := grown_trans hg1 hq2
      have HRD2 := Lib.hid hrd2
      obtain ⟨f0, f1, f2, f3, f4, f5, f6, f7, f8⟩ := bx_cells (c := []) (box_grown HBY1.out hq2 (by omega))
      clear hrd2 hq2
      go_wp2
      refine bodyPost_ret (v := .tuple #[.agg #[.int .i64 0, .string ⟨([]).toArray⟩, .bool false, .slice none 0 0, .int .i64 0, .int .i64 0, .bool false, .slice none 0 0], .int .i64 10]) (by simp [results, Try.results35, go_sem, f0, f1, f2, f3, f4, f5, f6, f7]) rfl ?_
      refine ⟨?_, ?_⟩
      · iterate 8 (refine grown_setNew ?_ (by first | omega | (simp; done) | (simp; omega)) _)
        exact hg2
      · rw [← HR.out]
        refine ⟨rfl, ?_⟩
        iterate 8 (refine RdE.setHi ?_ (by first | omega | (simp; done) | (simp; omega)) _)
        exact ⟨_, HRD2.out⟩
    | some r2 =>
      simp only [groupK, h1, h2] at hR
      have HR := Lib.hid hR
      have H1 := Lib.hid h1
      have H2 := Lib.hid h2
      have hl2 : r2.length < n := by
        have e1 := takeM_some h1
        have e2 := takeM_some h2
        subst e1 e2
        simp at hl; omega
      clear hR h1 h2 hl
      have c2 := (h.later ((Below.refl w.heap.size w).alloc (Nat.le_refl _) (.cells #[.int .i64 0, .string ⟨#[]⟩, .bool false, .slice none 0 0, .int .i64 0, .int .i64 0, .bool false, .slice none 0 0] 26))).cell2
      obtain ⟨w0, hw0⟩ : ∃ w0, w0 = w.alloc (.cells #[.int .i64 0, .string ⟨#[]⟩, .bool false, .slice none 0 0, .int .i64 0, .int .i64 0, .bool false, .slice none 0 0] 26) := ⟨_, rfl⟩
      obtain ⟨hb0, hz0, hby0⟩ := alloc1 w hw0
      have HRD := Lib.hid (h.later hb0)
      rw [hw0] at HRD
      have HW0 := Lib.hid hw0
      have HBY0 := Lib.hid hby0
      have hgg : w.grownBy w0 (some g) := grown_of_below hb0 _
      have hgr : g < w.heap.size := h.lt
      clear hw0 hby0 h
      go_enter Try.func35, Try.ntmps35
      go_wp2_with (go_at_call 39; refine (take_some _ HRD.out H1.out).mono ?_)
      rintro e w1 ⟨rfl, hrd1, hq1⟩
      rw [← HW0.out] at hq1
      have hg1 := grown_trans hgg hq1
      have HBY1 := Lib.hid (box_grown HBY0.out hq1 (by omega))
      have hz1 := hq1.size
      have HRD1 := Lib.hid hrd1
      clear hrd1 hq1 c2
      go_wp2_with (go_at_call 39; refine (take_some _ HRD1.out H2.out).mono ?_)
      rintro e w2 ⟨rfl, hrd2, hq2⟩
      have hg2 := grown_trans hg1 hq2
      have HBY2 := Lib.hid (box_grown HBY1.out hq2 (by omega))
      have hz2 := hq2.size
      have HRD2 := Lib.hid hrd2
      clear hrd2 hq2
      have c2 := (HRD2.out).cell2
      have hf2 := (HRD2.out).free2
      have hrdd : Rd ((w2).setCell ⟨g, 2, none⟩ (.int .i64 ((d : Int) + 1))) g r2 (d + 1) := (HRD2.out).setDeep _
      have HRDD := Lib.hid hrdd
      have hgd := grown_set hg2 2 (.int .i64 ((d : Int) + 1))
      have hbyd := box_other HBY2.out (a := ⟨g, 2, none⟩) (by first | omega | (simp; done) | (simp; omega)) (.int .i64 ((d : Int) + 1))
      have HBYD := Lib.hid hbyd
      have HPAT := Lib.hid (HP.out g (d + 1) r2 _ HRDD.out (by omega) (by omega))
      clear hrdd hbyd
      go_wp2_with (go_at_call 10; refine HPAT.out.mono ?_)
      rintro e w5 hq
      clear c2 hf2 HPAT
      cases hpr : patF n r2 (d + 1) with
      | error q =>
        rw [hpr] at hq
        obtain ⟨hq5, rfl, r9, hrd9⟩ := hq
        have hq0 : q ≠ 0 := pat_err n r2 (d + 1) q hpr
        have HR2 : Hid (Except.error q = R) := Lib.hid (by rw [← HR.out]; simp only [hpr])
        have HR := HR2
        have hg5 := grown_trans hgd hq5
        have hby5 := box_grown HBYD.out hq5 (by omega)
        have hb6 : Below w5.heap.size w5 (w5.alloc (.cells #[.int .i64 0, .string ⟨#[]⟩, .bool false, .slice none 0 0, .int .i64 0, .int .i64 0, .bool false, .slice none 0 0] 26)) := (Below.refl _ _).alloc (Nat.le_refl _) _
        have hrd6 := hrd9.later hb6
        have c6 := hrd6.cell2
        have hf6 := hrd6.free2
        have HRD7 := Lib.hid (hrd6.setDeep (.int .i64 (d : Int)))
        have hg7 := grown_set (grown_trans hg5 (grown_of_below hb6 (some g))) 2 (.int .i64 (d : Int))
        have ed : ((d + 1 : Nat) : Int) - 1 = d := by omega
        have ne1 : (q != 0) = true := by simp [bne, hq0]
        obtain ⟨f0, f1, f2, f3, f4, f5, f6, f7, f8⟩ := bx_cells (c := []) (box_other ((hb6.block _ (heap_lt hby5)).trans hby5) (a := ⟨g, 2, none⟩) (by first | omega | (simp; done) | (simp; omega)) (.int .i64 (d : Int)))
        clear hpr hby5 hrd9 hrd6 hb6
        unfold rxv0
        go_wp2
        refine bodyPost_ret (v := .tuple #[.agg #[.int .i64 0, .string ⟨([]).toArray⟩, .bool false, .slice none 0 0, .int .i64 0, .int .i64 0, .bool false, .slice none 0 0], .int .i64 q]) (by simp [results, Try.results35, go_sem, f0, f1, f2, f3, f4, f5, f6, f7]) rfl ?_
        refine ⟨?_, ?_⟩
        · iterate 8 (refine grown_setNew ?_ (by first | omega | (simp; done) | (simp; omega)) _)
          exact hg7
        · rw [← HR.out]
          refine ⟨rfl, ?_⟩
          iterate 8 (refine RdE.setHi ?_ (by first | omega | (simp; done) | (simp; omega)) _)
          exact ⟨_, HRD7.out⟩
      | ok y =>
        obtain ⟨x, r3⟩ := y
        rw [hpr] at hq
        obtain ⟨hq5, cc, rfl, hxv, hrd5⟩ := hq
        have hg5 := grown_trans hgd hq5
        have hzd := hgd.size
        have hz5 := hq5.size
        have hby5 := box_grown HBYD.out hq5 (by omega)
        have HBX5 := Lib.hid hby5
        obtain ⟨k, c, ng, rs, lo, hi, lz, ks⟩ := x
        have hxv0 := hxv
        obtain ⟨ra, rc, ka, kc, rfl, hrs, hks⟩ := hxv.open_
        clear hrs hks hxv hby5
        have HXV := Lib.hid (hxv0.mono (S' := fun b => w.heap.size ≤ b ∧ b ≠ w.heap.size) fun b hb hlt => by have := hgd.size; simp only [World.size_setCell] at hb; constructor <;> omega)
        clear hxv0
        unfold rxc at HXV ⊢
        obtain ⟨w6, hw6⟩ : ∃ w6, w6 = (w5.alloc (.cells #[.int .i64 k, .string ⟨(c).toArray⟩, .bool ng, .slice ra rs.length rc, .int .i64 lo, .int .i64 hi, .bool lz, .slice ka ks.length kc] 26)).setCell ⟨g, 2, none⟩ (.int .i64 (d : Int)) := ⟨_, rfl⟩
        have hb6 : Below w5.heap.size w5 (w5.alloc (.cells #[.int .i64 k, .string ⟨(c).toArray⟩, .bool ng, .slice ra rs.length rc, .int .i64 lo, .int .i64 hi, .bool lz, .slice ka ks.length kc] 26)) := (Below.refl _ _).alloc (Nat.le_refl _) _
        have hrd6 := hrd5.later hb6
        have c6 := hrd6.cell2
        have hf6 := hrd6.free2
        have hrd7 : Rd w6 g r3 d := hw6 ▸ hrd6.setDeep (.int .i64 (d : Int))
        have hg7 : w.grownBy w6 (some g) := hw6 ▸ grown_set (grown_trans hg5 (grown_of_below hb6 (some g))) 2 (.int .i64 (d : Int))
        have hby7 : w6.heap[w.heap.size]? = some (.cells #[.int .i64 0, .string ⟨#[]⟩, .bool false, .slice none 0 0, .int .i64 0, .int .i64 0, .bool false, .slice none 0 0] 26 (0, 0)) := hw6 ▸ box_other ((hb6.block _ (heap_lt HBX5.out)).trans HBX5.out) (a := ⟨g, 2, none⟩) (by first | omega | (simp; done) | (simp; omega)) (.int .i64 (d : Int))
        have hbz7 : w6.heap[w5.heap.size]? = some (.cells #[.int .i64 k, .string ⟨(c).toArray⟩, .bool ng, .slice ra rs.length rc, .int .i64 lo, .int .i64 hi, .bool lz, .slice ka ks.length kc] 26 (0, 0)) := hw6 ▸ box_other (heap_alloc_new w5 _) (a := ⟨g, 2, none⟩) (by first | omega | (simp; done) | (simp; omega)) (.int .i64 (d : Int))
        have hxv7 : RxV w6 (fun b => w.heap.size ≤ b ∧ b ≠ w.heap.size) _ _ := hw6 ▸ (HXV.out.later hb6).keep (Kept.setLow (a := ⟨g, 2, none⟩) (.int .i64 (d : Int)) (fun b hb => by have : w.heap.size ≤ b ∧ b ≠ w.heap.size := hb; first | omega | (simp; done) | (simp; omega)))
        have HRD7 := Lib.hid hrd7
        have HBY7 := Lib.hid hby7
        have HBZ7 := Lib.hid hbz7
        have HXV7 := Lib.hid hxv7
        have hz7 : w5.heap.size + 1 ≤ w6.heap.size := by rw [hw6]; simp
        have ed : ((d + 1 : Nat) : Int) - 1 = d := by omega
        clear hrd5 hrd6 hrd7 hby7 hbz7 hxv7 HXV HBX5 hb6
        cases ht : takeM [41] r3 with
        | none =>
          have HR2 : Hid (Except.error 10 = R) := Lib.hid (by rw [← HR.out]; simp only [hpr, ht])
          have HR := HR2
          have HT := Lib.hid ht
          have HRD8 := HRD7
          rw [hw6] at HRD8
          have HW6 := Lib.hid hw6
          clear hpr ht hw6
          go_wp2_with (go_at_call 39; refine (take_none _ HRD8.out HT.out (by simp)).mono ?_)
          rintro e w9 ⟨rfl, hrd9, hq9⟩
          rw [← HW6.out] at hq9
          have hg9 := grown_trans hg7 hq9
          have HRD9 := Lib.hid hrd9
          obtain ⟨f0, f1, f2, f3, f4, f5, f6, f7, f8⟩ := bx_cells (c := []) (box_grown HBY7.out hq9 (by omega))
          clear hrd9 hq9 c6 hf6
          go_wp2
          refine bodyPost_ret (v := .tuple #[.agg #[.int .i64 0, .string ⟨([]).toArray⟩, .bool false, .slice none 0 0, .int .i64 0, .int .i64 0, .bool false, .slice none 0 0], .int .i64 10]) (by simp [results, Try.results35, go_sem, f0, f1, f2, f3, f4, f5, f6, f7]) rfl ?_
          refine ⟨?_, ?_⟩
          · iterate 8 (refine grown_setNew ?_ (by first | omega | (simp; done) | (simp; omega)) _)
            exact hg9
          · rw [← HR.out]
            refine ⟨rfl, ?_⟩
            iterate 8 (refine RdE.setHi ?_ (by first | omega | (simp; done) | (simp; omega)) _)
            exact ⟨_, HRD9.out⟩
        | some r4 =>
          have HR2 : Hid (Except.ok (grpR 6 (.mk k c ng rs lo hi lz ks), r4) = R) := Lib.hid (by rw [← HR.out]; simp only [hpr, ht])
          have HR := HR2
          have HT := Lib.hid ht
          have HRD8 := HRD7
          rw [hw6] at HRD8
          have HW6 := Lib.hid hw6
          clear hpr ht hw6
          go_wp2_with (go_at_call 39; refine (take_some _ HRD8.out HT.out).mono ?_)
          rintro e w9 ⟨rfl, hrd9, hq9⟩
          rw [← HW6.out] at hq9
          have hg9 := grown_trans hg7 hq9
          have hz9 := hq9.size
          have hne9 : w.heap.size ≠ w9.heap.size := by omega
          have hlt9 : w.heap.size < w9.heap.size := by omega
          have hby9 := box_grown HBY7.out hq9 (by omega)
          have HRD9 := Lib.hid hrd9
          obtain ⟨f0, f1, f2, f3, f4, f5, f6, f7, f8⟩ := bx_cells (c := []) hby9
          obtain ⟨e0, e1, e2, e3, e4, e5, e6, e7, e8⟩ := bx_cells (box_grown HBZ7.out hq9 (by omega))
          have HXV9 := Lib.hid (HXV7.out.keep (Kept.grown hq9 fun b hb => by have : w.heap.size ≤ b ∧ b ≠ w.heap.size := hb; omega))
          clear hrd9 hq9 c6 hf6 hby9
          go_wp2
          refine bodyPost_ret (v := .tuple #[.agg #[.int .i64 6, .string ⟨#[]⟩, .bool false, .slice none 0 0, .int .i64 0, .int .i64 0, .bool false, .slice (some ⟨w9.heap.size, 0, none⟩) 1 1], .int .i64 0]) (by simp [results, Try.results35, go_sem, f0, f1, f2, f3, f4, f5, f6, f7, hlt9]) rfl ?_
          refine ⟨grown_alloc (grown_set8 hg9 (Nat.le_refl _)) _, ?_⟩
          rw [← HR.out]
          refine ⟨rxc 6 [] false none ([] : List Row).length 0 0 0 false (some ⟨w9.heap.size, 0, none⟩) [Rx.mk k c ng rs lo hi lz ks].length 1, rfl, RxV.mono (S := fun b => w.heap.size ≤ b ∧ b ≠ w.heap.size) (fun b hb _ => hb.1) (RxV.close (SlS.none_ _ _ _ _) (RxSl.one ((HXV9.out.keep (set8_kept w9 w.heap.size fun b hb => hb.2)).later ((Below.refl _ _).alloc (Nat.le_refl _) _)) (set8_new w9 w.heap.size) ⟨by omega, by omega⟩)), ?_⟩
          exact (HRD9.out.set8 hgr).later ((Below.refl _ _).alloc (Nat.le_refl _) _)
end Go.Proofs.Ytemophfieihgaaa
