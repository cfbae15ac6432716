/- The document's reader in memory: see, take -/
import Derived.Test.YtemophfieihgaaaX10
set_option maxRecDepth 100000
namespace Go.Proofs.Ytemophfieihgaaa
open Go.RowKit
abbrev Rd2 (w : World) (g : Nat) (r : List Str) : Prop := RdT 43 [] w g r
set_option maxHeartbeats 400000 in
theorem rsee_any {g : Nat} {r : List Str} (w : World) (h : Rd2 w g r) :
    Calls Try.prog 22 #[.pointer (some ⟨g, 0, none⟩)] w fun e w' => e = .returned (.string ⟨(hdS r).toArray⟩) ∧ Still w w' := by
  obtain ⟨a, c, l, i, c0, c1, hf, hs, hl, hi, hp, hd, hg⟩ := h.cells
  clear h hf
  cases r with
  | nil =>
    have h2 : l.length ≤ i := ldrop_none hd
    show Calls Try.prog 22 #[.pointer (some ⟨g, 0, none⟩)] w fun e w' => e = .returned (.string ⟨(([] : Str)).toArray⟩) ∧ Still w w'
    clear hd hs
    go_enter Try.func22, Try.ntmps22
    go_wp2
    go_quiet (fail)
    go_wp2
    go_ret
    exact ⟨rfl, Still.drewN _ _⟩
  | cons p r =>
    obtain ⟨h2, hx, _⟩ := ldrop_cons hd
    obtain ⟨b, o, rfl, hb, k0⟩ := hs.sl.str hx
    show Calls Try.prog 22 #[.pointer (some ⟨g, 0, none⟩)] w fun e w' => e = .returned (.string ⟨(p).toArray⟩) ∧ Still w w'
    clear hx hs hd
    go_enter Try.func22, Try.ntmps22
    go_wp2
    go_quiet (fail)
    go_wp2
    obtain ⟨w1, hw1⟩ : ∃ w1, w1 = w.drewN nq := ⟨_, rfl⟩
    have hbq : Below w.heap.size w w1 := by rw [hw1]; exact below_drewN (Below.refl _ _) _
    rw [← hw1]
    have e0 := cell_kept hbq _ _ c0
    have e1 := cell_kept hbq _ _ c1
    have e2 := cell_kept hbq _ _ k0
    have HW := Lib.hid hw1
    clear c0 c1 k0 hw1
    go_quiet (fail)
    go_wp2
    go_ret
    refine ⟨rfl, ?_⟩
    rw [HW.out]
    exact (Still.drewN _ _).trans (Still.drewN _ _)
set_option maxHeartbeats 400000 in
theorem rtake_yes {g : Nat} {r : List Str} (c : Str) (w : World) (h : Rd2 w g (c :: r)) :
    Calls Try.prog 25 #[.pointer (some ⟨g, 0, none⟩), .string ⟨(c).toArray⟩] w fun e w' => e = .returned (.bool true) ∧ Rd2 w' g r ∧ w.grownBy w' (some g) := by
  obtain ⟨a, k, l, i, c0, c1, hf, hs, hl, hi, hp, hd, hg⟩ := h.cells
  obtain ⟨h2, hx, _⟩ := ldrop_cons hd
  obtain ⟨b, o, rfl, hb, k0⟩ := hs.sl.str hx
  have HR := Lib.hid h
  have e0 : ∀ x : ExtOf w, x.val.cell? ⟨g, 0, none⟩ = some (.slice (some ⟨b, o, none⟩) l.length k) := ExtOf.cell c0
  have e1 : ∀ x : ExtOf w, x.val.cell? ⟨g, 1, none⟩ = some (.int .i64 i) := ExtOf.cell c1
  have e2 : ∀ x : ExtOf w, x.val.cell? ⟨b, o + i, none⟩ = some (.string ⟨(c).toArray⟩) := ExtOf.cell k0
  have dd : decide ((l.length : Int) ≤ (i : Int)) = false := decide_eq_false (by omega)
  have dn : decide (l.length ≤ i) = false := decide_eq_false (by omega)
  clear h hf hs hx hd c0 c1 k0 hp
  go_enter Try.func25, Try.ntmps25
  go_wp2
  refine wp_region_ext (by kernel_rfl) (by kernel_rfl) ?_
  repeat (go_big_quiet_step ((fail)))
  refine wpQuiet_nil ?_
  rintro _ ⟨xq, rfl⟩
  have hrq := HR.out.later xq.ext
  have hgq := grown_of_below xq.ext (some g)
  clear e0 e1 e2
  generalize xq.val = wq at *
  obtain ⟨j, hj, d1, hf, hr⟩ := hrq.step
  have HR1 := Lib.hid hr
  clear hr hrq
  go_wp2
  go_ret
  exact ⟨rfl, HR1.out, grown_trans hgq (grown_set (grown_refl _ _) _ _)⟩
set_option maxHeartbeats 400000 in
theorem rtake_no {g : Nat} {r : List Str} (c : Str) (w : World) (h : Rd2 w g r) (hc : takeM c r = none) :
    Calls Try.prog 25 #[.pointer (some ⟨g, 0, none⟩), .string ⟨(c).toArray⟩] w fun e w' => e = .returned (.bool false) ∧ Rd2 w' g r ∧ w.grownBy w' (some g) := by
  obtain ⟨a, k, l, i, c0, c1, hf, hs, hl, hi, hp, hd, hg⟩ := h.cells
  have HR := Lib.hid h
  have e0 : ∀ x : ExtOf w, x.val.cell? ⟨g, 0, none⟩ = some (.slice a l.length k) := ExtOf.cell c0
  have e1 : ∀ x : ExtOf w, x.val.cell? ⟨g, 1, none⟩ = some (.int .i64 i) := ExtOf.cell c1
  cases r with
  | nil =>
    have h2 : l.length ≤ i := ldrop_none hd
    have dd : decide ((l.length : Int) ≤ (i : Int)) = true := decide_eq_true (by omega)
    have dn : decide (l.length ≤ i) = true := decide_eq_true (by omega)
    clear h hf hs hd c0 c1 hp hc
    go_enter Try.func25, Try.ntmps25
    go_wp2
    refine wp_region_ext (by kernel_rfl) (by kernel_rfl) ?_
    repeat (go_big_quiet_step ((fail)))
    refine wpQuiet_nil ?_
    rintro _ ⟨xq, rfl⟩
    have hrq := HR.out.later xq.ext
    have hgq := grown_of_below xq.ext (some g)
    clear e0 e1
    generalize xq.val = wq at *
    go_wp2
    go_ret
    exact ⟨rfl, hrq, hgq⟩
  | cons p r =>
    obtain ⟨h2, hx, _⟩ := ldrop_cons hd
    obtain ⟨b, o, rfl, hb, k0⟩ := hs.sl.str hx
    have e2 : ∀ x : ExtOf w, x.val.cell? ⟨b, o + i, none⟩ = some (.string ⟨(p).toArray⟩) := ExtOf.cell k0
    have dd : decide ((l.length : Int) ≤ (i : Int)) = false := decide_eq_false (by omega)
    have dn : decide (l.length ≤ i) = false := decide_eq_false (by omega)
    have hne : p ≠ c := by intro e; rw [takeM, if_pos e] at hc; cases hc
    have n1 : (p == c) = false := beq_eq_false_iff_ne.2 hne
    have n2 : (p != c) = true := by simp [bne, n1]
    clear h hf hs hx hd c0 c1 k0 hp hc hne
    go_enter Try.func25, Try.ntmps25
    go_wp2
    refine wp_region_ext (by kernel_rfl) (by kernel_rfl) ?_
    repeat (go_big_quiet_step ((fail)))
    refine wpQuiet_nil ?_
    rintro _ ⟨xq, rfl⟩
    have hrq := HR.out.later xq.ext
    have hgq := grown_of_below xq.ext (some g)
    clear e0 e1 e2
    generalize xq.val = wq at *
    go_wp2
    go_ret
    exact ⟨rfl, hrq, hgq⟩
theorem rtake_some {g : Nat} {r r1 : List Str} {c : Str} (w : World) (h : Rd2 w g r) (hc : takeM c r = some r1) :
    Calls Try.prog 25 #[.pointer (some ⟨g, 0, none⟩), .string ⟨(c).toArray⟩] w fun e w' => e = .returned (.bool true) ∧ Rd2 w' g r1 ∧ w.grownBy w' (some g) := by
  have e := takeM_some hc
  subst e
  exact rtake_yes c w h
end Go.Proofs.Ytemophfieihgaaa
set_option maxRecDepth 100000
namespace Go.Proofs.Ytemophfieihgaaa
open Go.RowKit
def letU (c : UInt8) : Bool := decide (65 ≤ c.toNat ∧ c.toNat ≤ 90) || decide (97 ≤ c.toNat ∧ c.toNat ≤ 122)
def digU (c : UInt8) : Bool := decide (48 ≤ c.toNat ∧ c.toNat ≤ 57)
set_option maxHeartbeats 400000 in
theorem RLetter_any (c : UInt8) (w : World) : Calls Try.prog 62 #[.int .u8 c.toNat] w fun e w' => e = .returned (.bool (letU c)) ∧ w = w' := by
  go_enter Try.func62, Try.ntmps62
  go_wp2
  all_goals (go_ret; refine ⟨ret_bool ?_, rfl⟩; unfold letU; rw [Bool.eq_iff_iff]; simp only [Bool.or_eq_true, decide_eq_true_eq]; first | omega | (simp; omega) | skip)
set_option maxHeartbeats 400000 in
theorem RDigit_any (c : UInt8) (w : World) : Calls Try.prog 55 #[.int .u8 c.toNat] w fun e w' => e = .returned (.bool (digU c)) ∧ w = w' := by
  go_enter Try.func55, Try.ntmps55
  go_wp2
  all_goals (go_ret; refine ⟨ret_bool ?_, rfl⟩; unfold digU; rw [Bool.eq_iff_iff]; simp only [decide_eq_true_eq]; first | omega | (simp; omega) | skip)
theorem wordB_one (b : UInt8) : wordB [b] = (letU b || digU b || decide (b.toNat = 95)) := by
  unfold letU digU
  rw [Bool.eq_iff_iff]
  simp only [wordB, Bool.or_eq_true, decide_eq_true_eq]
  omega
def foldB (b : UInt8) : UInt8 := if 65 ≤ b.toNat ∧ b.toNat ≤ 90 then b + 32 else b
theorem foldB_up {b : UInt8} (h : 65 ≤ b.toNat ∧ b.toNat ≤ 90) : (((foldB b).toNat : Nat) : Int) = (b.toNat : Int) + 32 := by
  unfold foldB
  rw [if_pos h, UInt8.toNat_add]
  simp; omega
theorem foldB_id {b : UInt8} (h : ¬ (65 ≤ b.toNat ∧ b.toNat ≤ 90)) : foldB b = b := by unfold foldB; rw [if_neg h]
theorem map_setZ (f : UInt8 → UInt8) (l : Str) (k : Nat) (hk : k < l.length) : ((l.take k).map f ++ l.drop k).set k (f l[k]) = (l.take (k + 1)).map f ++ l.drop (k + 1) := by
  apply List.ext_getElem?
  intro i
  have e1 : ((l.take k).map f).length = k := by simp; omega
  have e2 : ((l.take (k + 1)).map f).length = k + 1 := by simp; omega
  rw [List.getElem?_set]
  by_cases h : k = i
  · subst h
    rw [if_pos rfl, if_pos (by simp; omega), List.getElem?_append_left (by omega), List.getElem?_map, List.getElem?_take_of_lt (by omega), List.getElem?_eq_getElem hk]; rfl
  · rw [if_neg h]
    by_cases h2 : i < k
    · rw [List.getElem?_append_left (by omega), List.getElem?_append_left (by omega), List.getElem?_map, List.getElem?_map, List.getElem?_take_of_lt h2, List.getElem?_take_of_lt (by omega)]
    · rw [List.getElem?_append_right (by omega), List.getElem?_append_right (by omega), e1, e2, List.getElem?_drop, List.getElem?_drop]
      congr 1; omega
theorem map_sameZ (f : UInt8 → UInt8) (l : Str) (k : Nat) (hk : k < l.length) (h : f l[k] = l[k]) : (l.take k).map f ++ l.drop k = (l.take (k + 1)).map f ++ l.drop (k + 1) := by
  rw [← map_setZ f l k hk, h]
  apply List.ext_getElem?
  intro i
  rw [List.getElem?_set]
  by_cases hi : k = i
  · subst hi
    rw [if_pos rfl, if_pos (by simp; omega), List.getElem?_append_right (by simp; omega), List.getElem?_drop, List.length_map, List.length_take, show k + (k - min k l.length) = k by omega, List.getElem?_eq_getElem hk]
  · rw [if_neg hi]
def FoldRel (l : Str) (w : World) (q : Value) (wr : World) : Prop := ∃ k : Nat, k ≤ l.length ∧ q = .int .i64 k ∧ BRow wr w.heap.size ((l.take k).map foldB ++ l.drop k) ∧ Below w.heap.size w wr ∧ w.heap.size < wr.heap.size
set_option maxHeartbeats 1000000 in
theorem RFold_any (l : Str) (w : World) (hs : l.length ≤ 1000000) :
    Calls Try.prog 52 #[.string ⟨(l).toArray⟩] w fun e w' => e = .returned (.string ⟨(l.map foldB).toArray⟩) ∧ Below w.heap.size w w' := by
  obtain ⟨cap, w0, hcv, hrow, hb0, hsz⟩ := BRow.made (P := Try.prog) w (src := 9) (dst := 77) l Try.underlying9 Try.underlying77 Try.underlying5
  have HZ := Lib.hid hsz; clear hsz
  have hsz0 : w.heap.size < w0.heap.size := by have := HZ.out; omega
  go_enter Try.func52, Try.ntmps52
  go_wp2_with (fail)
  go_loopw [4] (fun q wr => FoldRel l w q wr) (fun q _ => l.length - (intOf q).toNat)
  case atStart => exact ⟨0, by omega, rfl, by simpa using hrow, hb0, by omega⟩
  case round =>
    obtain ⟨k, hk, rfl, hr, hb, hlt⟩ := hrel
    by_cases h2 : k < l.length
    · have hc := hr.cell (j := k) (c := l[k]) (by rw [List.getElem?_append_right (by simp; omega), List.getElem?_drop, List.length_map, List.length_take, show k + (k - min k l.length) = k by omega, List.getElem?_eq_getElem h2])
      have hf := hr.free (j := k) (by simp; omega)
      have h256 := u8_lt l[k]
      by_cases hup : 65 ≤ (l[k]).toNat ∧ (l[k]).toNat ≤ 90
      · have HS := hr.set (j := k) (foldB l[k])
        rw [map_setZ foldB l k h2, foldB_up hup] at HS
        have HS' := Lib.hid HS; clear HS
        obtain ⟨u1, u2⟩ := hup
        generalize hx : l[k] = x at *
        have d1 : decide (65 ≤ x.toNat) = true := decide_eq_true u1
        have d2 : decide (x.toNat ≤ 90) = true := decide_eq_true u2
        clear hx
        go_wp2
        go_roundw
        case rel => exact ⟨k + 1, by omega, by go_num, HS'.out, hb.setCell (p := ⟨w.heap.size, k, none⟩) (Nat.le_refl _) _, by simp [World.setCell]; omega⟩
        case measure => simp [intOf]; omega
      · have HS' := Lib.hid (map_sameZ foldB l k h2 (foldB_id hup) ▸ hr)
        generalize hx : l[k] = x at *
        clear hx
        by_cases u1 : 65 ≤ x.toNat
        · have d1 : decide (65 ≤ x.toNat) = true := decide_eq_true u1
          have d2 : decide (x.toNat ≤ 90) = false := decide_eq_false (by omega)
          have u2 : ¬ x.toNat ≤ 90 := by omega
          clear hup
          go_wp2
          go_roundw
          case rel => exact ⟨k + 1, by omega, by go_num, HS'.out, hb, hlt⟩
          case measure => simp [intOf]; omega
        · have d1 : decide (65 ≤ x.toNat) = false := decide_eq_false u1
          clear hup
          go_wp2
          go_roundw
          case rel => exact ⟨k + 1, by omega, by go_num, HS'.out, hb, hlt⟩
          case measure => simp [intOf]; omega
    · have hkl : k = l.length := by omega
      subst hkl
      have hcv2 := hr.back (P := Try.prog) (src := 77) (dst := 9) Try.underlying77 Try.underlying5 Try.underlying9 cap
      simp only [List.take_length, List.drop_length, List.append_nil, List.length_map] at hcv2
      go_wp2
      go_ret
      exact ⟨rfl, hb⟩
set_option maxHeartbeats 400000 in
theorem RNamed_any (c : UInt8) (w : World) : Calls Try.prog 53 #[.int .u8 c.toNat] w fun e w' => NamedPost (namedL c) (namedB c) w e w' := by
  by_cases h100 : c = 100
  · skip
    subst h100
    show Calls Try.prog 53 #[.int .u8 (100 : Nat)] w fun e w' => NamedPost [([48], [57])] true w e w'
    go_enter Try.func53, Try.ntmps53
    go_wp2
    go_ret2
    refine ⟨_, _, rfl, ?_, (Below.refl w.heap.size w).alloc (Nat.le_refl _) _, fun _ => ⟨_, rfl⟩⟩
    exact lit_slS (B := w.heap.size) (w := w) (t := 47) (cs := #[.string ⟨(([48] : Str)).toArray⟩, .string ⟨(([57] : Str)).toArray⟩]) (n := 1) (sz := 2) (Nat.le_refl _) rfl (Sl.lit (heap_alloc_new _ _) rfl)
  by_cases h119 : c = 119
  · skip
    subst h119
    show Calls Try.prog 53 #[.int .u8 (119 : Nat)] w fun e w' => NamedPost [([48], [57]), ([65], [90]), ([95], [95]), ([97], [122])] true w e w'
    go_enter Try.func53, Try.ntmps53
    go_wp2
    go_ret2
    refine ⟨_, _, rfl, ?_, (Below.refl w.heap.size w).alloc (Nat.le_refl _) _, fun _ => ⟨_, rfl⟩⟩
    exact lit_slS (B := w.heap.size) (w := w) (t := 47) (cs := #[.string ⟨(([48] : Str)).toArray⟩, .string ⟨(([57] : Str)).toArray⟩, .string ⟨(([65] : Str)).toArray⟩, .string ⟨(([90] : Str)).toArray⟩, .string ⟨(([95] : Str)).toArray⟩, .string ⟨(([95] : Str)).toArray⟩, .string ⟨(([97] : Str)).toArray⟩, .string ⟨(([122] : Str)).toArray⟩]) (n := 4) (sz := 2) (Nat.le_refl _) rfl (Sl.lit (heap_alloc_new _ _) rfl)
  by_cases h115 : c = 115
  · skip
    subst h115
    show Calls Try.prog 53 #[.int .u8 (115 : Nat)] w fun e w' => NamedPost [([9], [13]), ([32], [32])] true w e w'
    go_enter Try.func53, Try.ntmps53
    go_wp2
    go_ret2
    refine ⟨_, _, rfl, ?_, (Below.refl w.heap.size w).alloc (Nat.le_refl _) _, fun _ => ⟨_, rfl⟩⟩
    exact lit_slS (B := w.heap.size) (w := w) (t := 47) (cs := #[.string ⟨(([9] : Str)).toArray⟩, .string ⟨(([13] : Str)).toArray⟩, .string ⟨(([32] : Str)).toArray⟩, .string ⟨(([32] : Str)).toArray⟩]) (n := 2) (sz := 2) (Nat.le_refl _) rfl (Sl.lit (heap_alloc_new _ _) rfl)
  · have hL : namedL c = [] := by simp [namedL, h100, h119, h115]
    have hB : namedB c = false := by simp [namedB, h100, h119, h115]
    have n1 : c.toNat ≠ 100 := fun e => h100 (UInt8.toNat_inj.1 e)
    have n2 : c.toNat ≠ 119 := fun e => h119 (UInt8.toNat_inj.1 e)
    have n3 : c.toNat ≠ 115 := fun e => h115 (UInt8.toNat_inj.1 e)
    rw [hL, hB]
    clear hL hB h100 h119 h115
    go_enter Try.func53, Try.ntmps53
    go_wp2
    go_ret2
    exact ⟨none, 0, rfl, SlS.none_ _ _ _ _, Below.refl _ _, fun h => by cases h⟩
theorem RNamed_yes {c : UInt8} (w : World) (h : namedB c = true) : Calls Try.prog 53 #[.int .u8 c.toNat] w fun e w' => NamedRes (namedL c) w e w' := by
  refine (RNamed_any c w).mono ?_
  rintro e w' ⟨a, k, h1, h2, h3, h4⟩
  obtain ⟨x, rfl⟩ := h4 h
  rw [h] at h1
  exact ⟨x, k, h1, h2, h3⟩
theorem RNamed_no {c : UInt8} (w : World) (h : namedB c = false) : Calls Try.prog 53 #[.int .u8 c.toNat] w fun e w' => NamedNo w e w' := by
  refine (RNamed_any c w).mono ?_
  rintro e w' ⟨a, k, h1, h2, h3, h4⟩
  rw [h] at h1
  exact ⟨_, h1, h3⟩
def EscpPost (c : Str) (w : World) (e : Ending) (w' : World) : Prop := w = w' ∧ match plainM c with
  | some t => e = .returned (.tuple #[.string ⟨(t).toArray⟩, .bool true])
  | none => e = .returned (.tuple #[.string ⟨(([] : Str)).toArray⟩, .bool false])
set_option maxHeartbeats 400000 in
theorem escape_any (c : Str) (w : World) (hs : c.length ≤ 100000000) :
    Calls Try.prog 54 #[.string ⟨(c).toArray⟩] w fun e w' => EscpPost c w e w' := by
  by_cases h0 : c = []
  · subst h0
    go_enter Try.func54, Try.ntmps54
    go_wp2
    go_ret2
    exact ⟨rfl, rfl⟩
  have g0 : List.isEmpty c = false := by cases c <;> simp at h0 ⊢
  by_cases h110 : c = [110]
  · subst h110
    go_enter Try.func54, Try.ntmps54
    go_wp2
    go_ret2
    exact ⟨rfl, rfl⟩
  have g110 : (c == [110]) = false := beq_eq_false_iff_ne.2 h110
  by_cases h114 : c = [114]
  · subst h114
    go_enter Try.func54, Try.ntmps54
    go_wp2
    go_ret2
    exact ⟨rfl, rfl⟩
  have g114 : (c == [114]) = false := beq_eq_false_iff_ne.2 h114
  by_cases h116 : c = [116]
  · subst h116
    go_enter Try.func54, Try.ntmps54
    go_wp2
    go_ret2
    exact ⟨rfl, rfl⟩
  have g116 : (c == [116]) = false := beq_eq_false_iff_ne.2 h116
  by_cases h102 : c = [102]
  · subst h102
    go_enter Try.func54, Try.ntmps54
    go_wp2
    go_ret2
    exact ⟨rfl, rfl⟩
  have g102 : (c == [102]) = false := beq_eq_false_iff_ne.2 h102
  by_cases h118 : c = [118]
  · subst h118
    go_enter Try.func54, Try.ntmps54
    go_wp2
    go_ret2
    exact ⟨rfl, rfl⟩
  have g118 : (c == [118]) = false := beq_eq_false_iff_ne.2 h118
  have hM : plainM c = if c = [95] ∨ wordB c = false then some c else none := by
    unfold plainM; rw [if_neg h0, if_neg h110, if_neg h114, if_neg h116, if_neg h102, if_neg h118]
  clear h110 h114 h116 h102 h118
  match c, hs, h0, g0, g110, g114, g116, g102, g118, hM with
  | [], _, h0, _, _, _, _, _, _, _ => exact absurd rfl h0
  | [b], hs, h0, g0, g110, g114, g116, g102, g118, hM =>
    have HL := Lib.hid (RLetter_any b)
    have HD := Lib.hid (RDigit_any b)
    cases hl : letU b with
    | true =>
      have HM : Hid (plainM [b] = none) := Lib.hid (by
        rw [hM, if_neg]
        rintro (h | h)
        · injection h with h; subst h; revert hl; decide
        · rw [wordB_one, hl] at h; cases h)
      rw [hl] at HL
      clear hM hl h0
      go_enter Try.func54, Try.ntmps54
      go_wp2_with (go_at_call 62; refine (HL.out _).mono ?_; rintro e w1 ⟨rfl, rfl⟩)
      go_ret2
      exact ⟨rfl, by rw [HM.out]; rfl⟩
    | false =>
      cases hd : digU b with
      | true =>
        have HM : Hid (plainM [b] = none) := Lib.hid (by
          rw [hM, if_neg]
          rintro (h | h)
          · injection h with h; subst h; revert hd; decide
          · rw [wordB_one, hd] at h; simp at h)
        rw [hl] at HL
        rw [hd] at HD
        clear hM hl hd h0
        go_enter Try.func54, Try.ntmps54
        go_wp2_with (first | (go_at_call 62; refine (HL.out _).mono ?_; rintro e w1 ⟨rfl, rfl⟩) | (go_at_call 55; refine (HD.out _).mono ?_; rintro e w1 ⟨rfl, rfl⟩))
        go_ret2
        exact ⟨rfl, by rw [HM.out]; rfl⟩
      | false =>
        have HM : Hid (plainM [b] = some [b]) := Lib.hid (by
          rw [hM, if_pos]
          by_cases h95 : b.toNat = 95
          · left; rw [show b = 95 from UInt8.toNat_inj.1 h95]
          · right; rw [wordB_one, hl, hd]; simpa using h95)
        rw [hl] at HL
        rw [hd] at HD
        clear hM hl hd h0
        go_enter Try.func54, Try.ntmps54
        go_wp2_with (first | (go_at_call 62; refine (HL.out _).mono ?_; rintro e w1 ⟨rfl, rfl⟩) | (go_at_call 55; refine (HD.out _).mono ?_; rintro e w1 ⟨rfl, rfl⟩))
        go_ret2
        exact ⟨rfl, by rw [HM.out]; rfl⟩
  | b :: b2 :: r, hs, h0, g0, g110, g114, g116, g102, g118, hM =>
    have HM : Hid (plainM (b :: b2 :: r) = some (b :: b2 :: r)) := Lib.hid (by rw [hM, if_pos (.inr rfl)])
    simp only [List.length_cons] at hs
    clear hM h0 g110 g114 g116 g102 g118
    go_enter Try.func54, Try.ntmps54
    go_wp2
    go_ret2
    exact ⟨rfl, by rw [HM.out]; rfl⟩
theorem escape_some {c t : Str} (w : World) (hs : c.length ≤ 100000000) (h : plainM c = some t) :
    Calls Try.prog 54 #[.string ⟨(c).toArray⟩] w fun e w' => e = .returned (.tuple #[.string ⟨(t).toArray⟩, .bool true]) ∧ w = w' := by
  refine (escape_any c w hs).mono ?_
  rintro e w' ⟨h1, h2⟩
  rw [h] at h2
  exact ⟨h2, h1⟩
theorem escape_none {c : Str} (w : World) (hs : c.length ≤ 100000000) (h : plainM c = none) :
    Calls Try.prog 54 #[.string ⟨(c).toArray⟩] w fun e w' => e = .returned (.tuple #[.string ⟨(([] : Str)).toArray⟩, .bool false]) ∧ w = w' := by
  refine (escape_any c w hs).mono ?_
  rintro e w' ⟨h1, h2⟩
  rw [h] at h2
  exact ⟨h2, h1⟩
end Go.Proofs.Ytemophfieihgaaa
set_option maxRecDepth 100000
namespace Go.Proofs.Ytemophfieihgaaa
open Go.RowKit
/-- 1 to 3 digits: how many, the number, what is left. -/
def numR : Nat → Nat → List Str → Nat × Nat × List Str
  | k, n, [] => (k, n, [])
  | k, n, c :: r => match digS c with
    | some d => if k = 3 then (k, n, c :: r) else numR (k + 1) (10 * n + d) r
    | none => (k, n, c :: r)
def NumP2 (g : Nat) (w : World) (R : Nat × Nat × List Str) (e : Ending) (w' : World) : Prop := w.grownBy w' (some g) ∧ e = .returned (.tuple #[.int .i64 R.2.1, .bool (decide (0 < R.1) && decide (R.2.1 ≤ 255))]) ∧ Rd2 w' g R.2.2
def NumRel2 (g : Nat) (w : World) (R : Nat × Nat × List Str) (vn vk : Value) (wr : World) : Prop :=
  ∃ (n k : Nat) (r : List Str), vn = .int .i64 n ∧ vk = .int .i64 k ∧ Rd2 wr g r ∧ w.grownBy wr (some g) ∧ k ≤ 3 ∧ n ≤ 999 ∧ Hid (k = 0 ∧ n = 0 ∨ k = 1 ∧ n ≤ 9 ∨ k = 2 ∧ n ≤ 99 ∨ k = 3) ∧ Hid (numR k n r = R)
theorem numR_end {k n : Nat} {r : List Str} (h : k = 3 ∨ ∀ c r', r = c :: r' → digS c = none) : numR k n r = (k, n, r) := by
  cases r with
  | nil => rfl
  | cons c r =>
    rcases h with rfl | h
    · simp only [numR]; cases digS c <;> rfl
    · simp only [numR, h c r rfl]
set_option maxHeartbeats 1000000 in
theorem rnumber_any {g : Nat} {r : List Str} (w : World) (h : Rd2 w g r) :
    Calls Try.prog 43 #[.pointer (some ⟨g, 0, none⟩)] w fun e w' => NumP2 g w (numR 0 0 r) e w' := by
  obtain ⟨R, hR⟩ : ∃ R, numR 0 0 r = R := ⟨_, rfl⟩
  rw [hR]
  have HR := Lib.hid hR
  have HRD0 := Lib.hid h
  clear hR h
  go_enter Try.func43, Try.ntmps43
  go_wp2
  go_loopw [4, 5] (fun vn vk wr => NumRel2 g w R vn vk wr) (fun _ vk _ => 3 - (intOf vk).toNat)
  case atStart => exact ⟨0, 0, r, rfl, rfl, HRD0.out, grown_refl _ _, by omega, by omega, Lib.hid (.inl ⟨rfl, rfl⟩), HR⟩
  case round =>
    clear HR HRD0
    obtain ⟨n, k, r, rfl, rfl, hrd, hg, hk, hn9, HB, HF⟩ := hrel
    have HRD := Lib.hid hrd
    by_cases hk3 : k = 3
    · have HF2 : Hid ((k, n, r) = R) := Lib.hid (by rw [← HF.out, numR_end (.inl hk3)])
      have hk3' : k ≤ 3 ∧ ¬ k < 3 := by omega
      have dk3 : decide (k < 3) = false := decide_eq_false (by omega)
      have dk3' : decide ((k : Int) < 3) = false := decide_eq_false (by omega)
      clear HF hrd hk3
      by_cases hk0 : 0 < k
      · have dk : decide (0 < k) = true := decide_eq_true hk0
        by_cases hn : n ≤ 255
        · have dn : decide (n ≤ 255) = true := decide_eq_true hn
          have hnb : decide ((n : Int) ≤ 255) = true := by simp; omega
          go_wp2
          go_ret2
          exact ⟨hg, by rw [← HF2.out]; exact congrArg (fun b => Ending.returned (.tuple #[.int .i64 (n : Int), .bool b])) (show true = (decide (0 < k) && decide (n ≤ 255)) by rw [dk, dn]; rfl), by rw [← HF2.out]; exact HRD.out⟩
        · have dn : decide (n ≤ 255) = false := decide_eq_false hn
          have hnb : decide ((n : Int) ≤ 255) = false := by simp; omega
          go_wp2
          go_ret2
          exact ⟨hg, by rw [← HF2.out]; first | exact congrArg (fun b => Ending.returned (.tuple #[.int .i64 (n : Int), .bool b])) (show false = (decide (0 < k) && decide (n ≤ 255)) by rw [dn, Bool.and_false]) | exact congrArg (fun b => Ending.returned (.tuple #[.int .i64 (n : Int), .bool b])) (show decide ((n : Int) ≤ 255) = (decide (0 < k) && decide (n ≤ 255)) by rw [hnb, dn, Bool.and_false]), by rw [← HF2.out]; exact HRD.out⟩
      · have dk : decide (0 < k) = false := decide_eq_false hk0
        go_wp2
        go_ret2
        exact ⟨hg, by rw [← HF2.out]; exact congrArg (fun b => Ending.returned (.tuple #[.int .i64 (n : Int), .bool b])) (show false = (decide (0 < k) && decide (n ≤ 255)) by rw [dk]; rfl), by rw [← HF2.out]; exact HRD.out⟩
    have dk3 : decide (k < 3) = true := decide_eq_true (by omega)
    have dk3' : decide ((k : Int) < 3) = true := decide_eq_true (by omega)
    cases r with
    | nil =>
      have HF2 : Hid ((k, n, []) = R) := HF
      clear HF hrd
      go_wp2_with (go_at_call 22; refine (rsee_any _ HRD.out).mono ?_)
      rintro e w1 ⟨rfl, hst1⟩
      have HRD1 := Lib.hid (hst1.rd HRD.out)
      have hg1 := grown_trans hg (hst1.grown (some g))
      have hh : hdS ([] : List Str) = [] := rfl
      rw [hh]
      clear hh hst1
      by_cases hk0 : 0 < k
      · have dk : decide (0 < k) = true := decide_eq_true hk0
        by_cases hn : n ≤ 255
        · have dn : decide (n ≤ 255) = true := decide_eq_true hn
          have hnb : decide ((n : Int) ≤ 255) = true := by simp; omega
          go_wp2
          go_ret2
          exact ⟨hg1, by rw [← HF2.out]; exact congrArg (fun b => Ending.returned (.tuple #[.int .i64 (n : Int), .bool b])) (show true = (decide (0 < k) && decide (n ≤ 255)) by rw [dk, dn]; rfl), by rw [← HF2.out]; exact HRD1.out⟩
        · have dn : decide (n ≤ 255) = false := decide_eq_false hn
          have hnb : decide ((n : Int) ≤ 255) = false := by simp; omega
          go_wp2
          go_ret2
          exact ⟨hg1, by rw [← HF2.out]; first | exact congrArg (fun b => Ending.returned (.tuple #[.int .i64 (n : Int), .bool b])) (show false = (decide (0 < k) && decide (n ≤ 255)) by rw [dn, Bool.and_false]) | exact congrArg (fun b => Ending.returned (.tuple #[.int .i64 (n : Int), .bool b])) (show decide ((n : Int) ≤ 255) = (decide (0 < k) && decide (n ≤ 255)) by rw [hnb, dn, Bool.and_false]), by rw [← HF2.out]; exact HRD1.out⟩
      · have dk : decide (0 < k) = false := decide_eq_false hk0
        go_wp2
        go_ret2
        exact ⟨hg1, by rw [← HF2.out]; exact congrArg (fun b => Ending.returned (.tuple #[.int .i64 (n : Int), .bool b])) (show false = (decide (0 < k) && decide (n ≤ 255)) by rw [dk]; rfl), by rw [← HF2.out]; exact HRD1.out⟩
    | cons c r' =>
      have hp := hrd.pos
      clear hrd
      match c, hp with
      | [b], _ =>
        by_cases hb : 48 ≤ b.toNat ∧ b.toNat ≤ 57
        · have hdg : digS [b] = some (b.toNat - 48) := by simp only [digS, if_pos hb]
          have HF2 : Hid (numR (k + 1) (10 * n + (b.toNat - 48)) r' = R) := Lib.hid (by rw [← HF.out, numR, hdg]; simp [hk3])
          have hn99 : n ≤ 99 := by have := HB.out; omega
          have HB2 : Hid (k + 1 = 0 ∧ 10 * n + (b.toNat - 48) = 0 ∨ k + 1 = 1 ∧ 10 * n + (b.toNat - 48) ≤ 9 ∨ k + 1 = 2 ∧ 10 * n + (b.toNat - 48) ≤ 99 ∨ k + 1 = 3) := Lib.hid (by have := HB.out; omega)
          have hdu : digU b = true := decide_eq_true hb
          have HD := Lib.hid (fun w => hdu ▸ RDigit_any b w)
          obtain ⟨hb1, hb2⟩ := hb
          clear HF hdg hdu
          go_wp2_with (go_at_call 22; refine (rsee_any _ HRD.out).mono ?_)
          rintro e w1 ⟨rfl, hst1⟩
          have HRD1 := Lib.hid (hst1.rd HRD.out)
          have hg1 := grown_trans hg (hst1.grown (some g))
          rw [hdS_cons]
          go_wp2_with (go_at_call 22; refine (rsee_any _ HRD1.out).mono ?_)
          rintro e w2 ⟨rfl, hst2⟩
          have HRD2 := Lib.hid (hst2.rd HRD1.out)
          have hg2 := grown_trans hg1 (hst2.grown (some g))
          rw [hdS_cons]
          go_wp2_with (go_at_call 55; refine (HD.out _).mono ?_)
          rintro e w3 ⟨rfl, rfl⟩
          go_wp2_with (go_at_call 22; refine (rsee_any _ HRD2.out).mono ?_)
          rintro e w4 ⟨rfl, hst4⟩
          have HRD4 := Lib.hid (hst4.rd HRD2.out)
          have hg4 := grown_trans hg2 (hst4.grown (some g))
          rw [hdS_cons]
          obtain ⟨i, hi, c1, hf, hr1⟩ := HRD4.out.step
          have HR1 := Lib.hid hr1
          have hg5 := grown_set hg4 1 (.int .i64 ((i : Int) + 1))
          clear hr1 hst1 hst2 hst4
          go_wp2
          go_roundw
          case rel => exact ⟨10 * n + (b.toNat - 48), k + 1, r', congrArg (Value.int .i64) (by omega), by go_num, HR1.out, hg5, by omega, by omega, HB2, HF2⟩
          case measure => simp [intOf]; omega
        · have hdg : digS [b] = none := by simp only [digS, if_neg hb]
          have HF2 : Hid ((k, n, [b] :: r') = R) := Lib.hid (by rw [← HF.out, numR_end (.inr fun c r' e => by injection e with e1 _; rw [← e1]; exact hdg)])
          have hdu : digU b = false := decide_eq_false hb
          have HD := Lib.hid (fun w => hdu ▸ RDigit_any b w)
          clear HF hdg hdu hb
          go_wp2_with (go_at_call 22; refine (rsee_any _ HRD.out).mono ?_)
          rintro e w1 ⟨rfl, hst1⟩
          have HRD1 := Lib.hid (hst1.rd HRD.out)
          have hg1 := grown_trans hg (hst1.grown (some g))
          rw [hdS_cons]
          go_wp2_with (go_at_call 22; refine (rsee_any _ HRD1.out).mono ?_)
          rintro e w2 ⟨rfl, hst2⟩
          have HRD2 := Lib.hid (hst2.rd HRD1.out)
          have hg2 := grown_trans hg1 (hst2.grown (some g))
          rw [hdS_cons]
          go_wp2_with (go_at_call 55; refine (HD.out _).mono ?_)
          rintro e w3 ⟨rfl, rfl⟩
          by_cases hk0 : 0 < k
          · have dk : decide (0 < k) = true := decide_eq_true hk0
            by_cases hn : n ≤ 255
            · have dn : decide (n ≤ 255) = true := decide_eq_true hn
              have hnb : decide ((n : Int) ≤ 255) = true := by simp; omega
              go_wp2
              go_ret2
              exact ⟨hg2, by rw [← HF2.out]; exact congrArg (fun b => Ending.returned (.tuple #[.int .i64 (n : Int), .bool b])) (show true = (decide (0 < k) && decide (n ≤ 255)) by rw [dk, dn]; rfl), by rw [← HF2.out]; exact HRD2.out⟩
            · have dn : decide (n ≤ 255) = false := decide_eq_false hn
              have hnb : decide ((n : Int) ≤ 255) = false := by simp; omega
              go_wp2
              go_ret2
              exact ⟨hg2, by rw [← HF2.out]; first | exact congrArg (fun b => Ending.returned (.tuple #[.int .i64 (n : Int), .bool b])) (show false = (decide (0 < k) && decide (n ≤ 255)) by rw [dn, Bool.and_false]) | exact congrArg (fun b => Ending.returned (.tuple #[.int .i64 (n : Int), .bool b])) (show decide ((n : Int) ≤ 255) = (decide (0 < k) && decide (n ≤ 255)) by rw [hnb, dn, Bool.and_false]), by rw [← HF2.out]; exact HRD2.out⟩
          · have dk : decide (0 < k) = false := decide_eq_false hk0
            go_wp2
            go_ret2
            exact ⟨hg2, by rw [← HF2.out]; exact congrArg (fun b => Ending.returned (.tuple #[.int .i64 (n : Int), .bool b])) (show false = (decide (0 < k) && decide (n ≤ 255)) by rw [dk]; rfl), by rw [← HF2.out]; exact HRD2.out⟩
      | [], hp => exact absurd rfl hp.1
      | b :: b2 :: t, hp =>
        have hlt := hp.2
        have HF2 : Hid ((k, n, (b :: b2 :: t) :: r') = R) := Lib.hid (by rw [← HF.out, numR_end (.inr fun c r' e => by injection e with e1 _; rw [← e1]; rfl)])
        have hne : ((t.length : Int) + 1 + 1 == 1) = false := by rw [beq_eq_false_iff_ne]; omega
        simp only [List.length_cons] at hlt
        clear HF
        go_wp2_with (go_at_call 22; refine (rsee_any _ HRD.out).mono ?_)
        rintro e w1 ⟨rfl, hst1⟩
        have HRD1 := Lib.hid (hst1.rd HRD.out)
        have hg1 := grown_trans hg (hst1.grown (some g))
        rw [hdS_cons]
        by_cases hk0 : 0 < k
        · have dk : decide (0 < k) = true := decide_eq_true hk0
          by_cases hn : n ≤ 255
          · have dn : decide (n ≤ 255) = true := decide_eq_true hn
            have hnb : decide ((n : Int) ≤ 255) = true := by simp; omega
            go_wp2
            go_ret2
            exact ⟨hg1, by rw [← HF2.out]; exact congrArg (fun b => Ending.returned (.tuple #[.int .i64 (n : Int), .bool b])) (show true = (decide (0 < k) && decide (n ≤ 255)) by rw [dk, dn]; rfl), by rw [← HF2.out]; exact HRD1.out⟩
          · have dn : decide (n ≤ 255) = false := decide_eq_false hn
            have hnb : decide ((n : Int) ≤ 255) = false := by simp; omega
            go_wp2
            go_ret2
            exact ⟨hg1, by rw [← HF2.out]; first | exact congrArg (fun b => Ending.returned (.tuple #[.int .i64 (n : Int), .bool b])) (show false = (decide (0 < k) && decide (n ≤ 255)) by rw [dn, Bool.and_false]) | exact congrArg (fun b => Ending.returned (.tuple #[.int .i64 (n : Int), .bool b])) (show decide ((n : Int) ≤ 255) = (decide (0 < k) && decide (n ≤ 255)) by rw [hnb, dn, Bool.and_false]), by rw [← HF2.out]; exact HRD1.out⟩
        · have dk : decide (0 < k) = false := decide_eq_false hk0
          go_wp2
          go_ret2
          exact ⟨hg1, by rw [← HF2.out]; exact congrArg (fun b => Ending.returned (.tuple #[.int .i64 (n : Int), .bool b])) (show false = (decide (0 < k) && decide (n ≤ 255)) by rw [dk]; rfl), by rw [← HF2.out]; exact HRD1.out⟩
def ItemQ (g : Nat) (w : World) (R : Option (Str × List Row × List Str)) (e : Ending) (w' : World) : Prop := w.grownBy w' (some g) ∧ match R with
  | none => ∃ (s : Str), e = .returned (.tuple #[.slice none 0 0, .string ⟨(s).toArray⟩, .bool false])
  | some (t, rows, r) => Rd2 w' g r ∧ ((rows = [] ∧ e = .returned (.tuple #[.slice none 0 0, .string ⟨(t).toArray⟩, .bool true])) ∨ (rows ≠ [] ∧ ∃ (a : Addr) (k : Nat), e = .returned (.tuple #[.slice (some a) rows.length k, .string ⟨#[]⟩, .bool true]) ∧ SlS w' (fun x => w.heap.size ≤ x) (some a) 2 rows.length (rcells rows)))
/-- The place behind the end, too. -/
theorem RdT.atEnd {T : TypeId} {x : List Value} {w : World} {g : Nat} {r : List Str} (h : RdT T x w g r) : ∃ i : Nat, i < 1000000 ∧ w.cell? ⟨g, 1, none⟩ = some (.int .i64 i) ∧ w.frozen? ⟨g, 1, none⟩ = false := by
  obtain ⟨a, k, l, i, c0, c1, hf, hs, hl, hi, hp, hd, hg⟩ := h.cells
  exact ⟨i, by omega, c1, hf 1 (by omega)⟩
set_option maxHeartbeats 1000000 in
theorem ritem_any {g : Nat} {r : List Str} (w : World) (h : Rd2 w g r) :
    Calls Try.prog 50 #[.pointer (some ⟨g, 0, none⟩)] w fun e w' => ItemQ g w (itemM r) e w' := by
  obtain ⟨R, hR⟩ : ∃ R, itemM r = R := ⟨_, rfl⟩
  rw [hR]
  have HRD := Lib.hid h
  have hg0 := grown_refl w (some g)
  cases r with
  | nil =>
    have HR : Hid (none = R) := Lib.hid hR
    clear hR h
    go_enter Try.func50, Try.ntmps50
    go_wp2_with (go_at_call 22; refine (rsee_any _ HRD.out).mono ?_)
    rintro e w1 ⟨rfl, hst1⟩
    have HRD1 := Lib.hid (hst1.rd HRD.out)
    have hg1 := grown_trans hg0 (hst1.grown (some g))
    have hh : hdS ([] : List Str) = [] := rfl
    rw [hh]
    clear hh hst1
    go_wp2
    go_ret3
    exact ⟨hg1, by rw [← HR.out]; exact ⟨_, rfl⟩⟩
  | cons c r1 =>
    have hp := h.pos
    have g0 : List.isEmpty c = false := by have := hp.1; cases c <;> simp at this ⊢
    by_cases h93 : c = [93]
    · subst h93
      have HR : Hid (none = R) := Lib.hid hR
      clear hR h
      go_enter Try.func50, Try.ntmps50
      go_wp2_with (go_at_call 22; refine (rsee_any _ HRD.out).mono ?_)
      rintro e w1 ⟨rfl, hst1⟩
      have HRD1 := Lib.hid (hst1.rd HRD.out)
      have hg1 := grown_trans hg0 (hst1.grown (some g))
      rw [hdS_cons]
      clear hst1
      go_wp2
      go_ret3
      exact ⟨hg1, by rw [← HR.out]; exact ⟨_, rfl⟩⟩
    have g93 : (c == [93]) = false := beq_eq_false_iff_ne.2 h93
    by_cases h92 : c = [92]
    · subst h92
      cases r1 with
      | nil =>
        have HR : Hid (none = R) := Lib.hid hR
        clear hR h
        go_enter Try.func50, Try.ntmps50
        go_wp2_with (go_at_call 22; refine (rsee_any _ HRD.out).mono ?_)
        rintro e w1 ⟨rfl, hst1⟩
        have HRD1 := Lib.hid (hst1.rd HRD.out)
        have hg1 := grown_trans hg0 (hst1.grown (some g))
        rw [hdS_cons]
        obtain ⟨i2, hi2, c2, hf2, hr2⟩ := (HRD1.out).step
        have HR2 := Lib.hid hr2
        have hgs2 := grown_set hg1 1 (.int .i64 ((i2 : Int) + 1))
        clear hr2
        clear hst1
        go_wp2_with (go_at_call 22; refine (rsee_any _ HR2.out).mono ?_)
        rintro e w3 ⟨rfl, hst3⟩
        have HRD3 := Lib.hid (hst3.rd HR2.out)
        have hg3 := grown_trans hgs2 (hst3.grown (some g))
        have hh : hdS ([] : List Str) = [] := rfl
        rw [hh]
        clear hh hst3
        go_wp2_with (go_at_call 54; refine (escape_none _ (by simp) rfl).mono ?_)
        rintro e w4 ⟨rfl, rfl⟩
        obtain ⟨i4, hi4, c4, hf4⟩ := HRD3.out.atEnd
        have hgs4 := grown_set hg3 1 (.int .i64 ((i4 : Int) + 1))
        go_wp2
        go_ret3
        exact ⟨hgs4, by rw [← HR.out]; exact ⟨_, rfl⟩⟩
      | cons c2 r2 =>
        have hp2 : c2 ≠ [] ∧ c2.length ≤ 1000000 := by
          obtain ⟨i, _, _, _, hr⟩ := h.step
          exact hr.pos
        cases hn : namedS c2 with
        | some rows =>
          have HR : Hid (some ([], rows, r2) = R) := Lib.hid (by rw [← hR]; simp only [itemM, hn]; rfl)
          obtain ⟨b, rfl, hnb, rfl⟩ := namedS_some hn
          have HNB := Lib.hid hnb
          have HNE := Lib.hid (namedL_ne hnb)
          clear hR h hn hnb
          go_enter Try.func50, Try.ntmps50
          go_wp2_with (go_at_call 22; refine (rsee_any _ HRD.out).mono ?_)
          rintro e w1 ⟨rfl, hst1⟩
          have HRD1 := Lib.hid (hst1.rd HRD.out)
          have hg1 := grown_trans hg0 (hst1.grown (some g))
          rw [hdS_cons]
          obtain ⟨i2, hi2, c2, hf2, hr2⟩ := (HRD1.out).step
          have HR2 := Lib.hid hr2
          have hgs2 := grown_set hg1 1 (.int .i64 ((i2 : Int) + 1))
          clear hr2
          clear hst1
          go_wp2_with (go_at_call 22; refine (rsee_any _ HR2.out).mono ?_)
          rintro e w3 ⟨rfl, hst3⟩
          have HRD3 := Lib.hid (hst3.rd HR2.out)
          have hg3 := grown_trans hgs2 (hst3.grown (some g))
          rw [hdS_cons]
          clear hst3
          go_wp2_with (go_at_call 53; refine (RNamed_yes _ HNB.out).mono ?_)
          rintro e w4 hq
          obtain ⟨a, k, rfl, hsl, hb4⟩ := hq
          have hg4 := grown_trans hg3 (grown_of_below hb4 (some g))
          have HRD4 := Lib.hid (HRD3.out.later hb4)
          have hz3 := hg3.size
          have HSL := Lib.hid hsl
          have hgl := HRD.out.lt
          clear hsl hb4
          obtain ⟨i5, hi5, c5, hf5, hr5⟩ := (HRD4.out).step
          have HR5 := Lib.hid hr5
          have hgs5 := grown_set hg4 1 (.int .i64 ((i5 : Int) + 1))
          clear hr5
          go_wp2
          go_ret3
          refine ⟨hgs5, ?_⟩
          rw [← HR.out]
          exact ⟨HR5.out, .inr ⟨HNE.out, a, k, rfl, (HSL.out.mono (S' := fun x => w.heap.size ≤ x) fun b hb _ => by omega).keep (Kept.setLow _ fun b hb => by have hb : w.heap.size ≤ b := hb; show b ≠ g; omega)⟩⟩
        | none =>
          cases hpm : plainM c2 with
          | none =>
            have HR : Hid (none = R) := Lib.hid (by rw [← hR]; simp only [itemM, hn, hpm]; rfl)
            have HPM := Lib.hid hpm
            match c2, hp2, hn with
            | [b], _, hn =>
              have HNB := Lib.hid (namedS_none hn)
              clear hR h hn hpm
              go_enter Try.func50, Try.ntmps50
              go_wp2_with (go_at_call 22; refine (rsee_any _ HRD.out).mono ?_)
              rintro e w1 ⟨rfl, hst1⟩
              have HRD1 := Lib.hid (hst1.rd HRD.out)
              have hg1 := grown_trans hg0 (hst1.grown (some g))
              rw [hdS_cons]
              obtain ⟨i2, hi2, c2, hf2, hr2⟩ := (HRD1.out).step
              have HR2 := Lib.hid hr2
              have hgs2 := grown_set hg1 1 (.int .i64 ((i2 : Int) + 1))
              clear hr2
              clear hst1
              go_wp2_with (go_at_call 22; refine (rsee_any _ HR2.out).mono ?_)
              rintro e w3 ⟨rfl, hst3⟩
              have HRD3 := Lib.hid (hst3.rd HR2.out)
              have hg3 := grown_trans hgs2 (hst3.grown (some g))
              rw [hdS_cons]
              clear hst3
              go_wp2_with (go_at_call 53; refine (RNamed_no _ HNB.out).mono ?_)
              rintro e w4 ⟨v, rfl, hb4⟩
              have hg4 := grown_trans hg3 (grown_of_below hb4 (some g))
              have HRD4 := Lib.hid (HRD3.out.later hb4)
              clear hb4
              go_wp2_with (go_at_call 54; refine (escape_none _ (by simp) HPM.out).mono ?_)
              rintro e w5 ⟨rfl, rfl⟩
              obtain ⟨i5, hi5, c5, hf5, hr5⟩ := (HRD4.out).step
              have HR5 := Lib.hid hr5
              have hgs5 := grown_set hg4 1 (.int .i64 ((i5 : Int) + 1))
              clear hr5
              go_wp2
              go_ret3
              exact ⟨hgs5, by rw [← HR.out]; exact ⟨_, rfl⟩⟩
            | [], hp2, _ => exact absurd rfl hp2.1
            | b :: b2 :: t, hp2, hn => exact absurd hpm (by unfold plainM; simp [wordB])
          | some t =>
            have HR : Hid (some (t, [], r2) = R) := Lib.hid (by rw [← hR]; simp only [itemM, hn, hpm]; rfl)
            have HPM := Lib.hid hpm
            match c2, hp2, hn with
            | [b], _, hn =>
              have HNB := Lib.hid (namedS_none hn)
              clear hR h hn hpm
              go_enter Try.func50, Try.ntmps50
              go_wp2_with (go_at_call 22; refine (rsee_any _ HRD.out).mono ?_)
              rintro e w1 ⟨rfl, hst1⟩
              have HRD1 := Lib.hid (hst1.rd HRD.out)
              have hg1 := grown_trans hg0 (hst1.grown (some g))
              rw [hdS_cons]
              obtain ⟨i2, hi2, c2, hf2, hr2⟩ := (HRD1.out).step
              have HR2 := Lib.hid hr2
              have hgs2 := grown_set hg1 1 (.int .i64 ((i2 : Int) + 1))
              clear hr2
              clear hst1
              go_wp2_with (go_at_call 22; refine (rsee_any _ HR2.out).mono ?_)
              rintro e w3 ⟨rfl, hst3⟩
              have HRD3 := Lib.hid (hst3.rd HR2.out)
              have hg3 := grown_trans hgs2 (hst3.grown (some g))
              rw [hdS_cons]
              clear hst3
              go_wp2_with (go_at_call 53; refine (RNamed_no _ HNB.out).mono ?_)
              rintro e w4 ⟨v, rfl, hb4⟩
              have hg4 := grown_trans hg3 (grown_of_below hb4 (some g))
              have HRD4 := Lib.hid (HRD3.out.later hb4)
              clear hb4
              go_wp2_with (go_at_call 54; refine (escape_some _ (by simp) HPM.out).mono ?_)
              rintro e w5 ⟨rfl, rfl⟩
              obtain ⟨i5, hi5, c5, hf5, hr5⟩ := (HRD4.out).step
              have HR5 := Lib.hid hr5
              have hgs5 := grown_set hg4 1 (.int .i64 ((i5 : Int) + 1))
              clear hr5
              go_wp2
              go_ret3
              exact ⟨hgs5, by rw [← HR.out]; exact ⟨HR5.out, .inl ⟨rfl, rfl⟩⟩⟩
            | [], hp2, _ => exact absurd rfl hp2.1
            | b :: b2 :: t2, hp2, hn =>
              have hlt := hp2.2
              simp only [List.length_cons] at hlt
              have hne : ((t2.length : Int) + 1 + 1 == 1) = false := by rw [beq_eq_false_iff_ne]; omega
              clear hR h hn hpm
              go_enter Try.func50, Try.ntmps50
              go_wp2_with (go_at_call 22; refine (rsee_any _ HRD.out).mono ?_)
              rintro e w1 ⟨rfl, hst1⟩
              have HRD1 := Lib.hid (hst1.rd HRD.out)
              have hg1 := grown_trans hg0 (hst1.grown (some g))
              rw [hdS_cons]
              obtain ⟨i2, hi2, c2, hf2, hr2⟩ := (HRD1.out).step
              have HR2 := Lib.hid hr2
              have hgs2 := grown_set hg1 1 (.int .i64 ((i2 : Int) + 1))
              clear hr2
              clear hst1
              go_wp2_with (go_at_call 22; refine (rsee_any _ HR2.out).mono ?_)
              rintro e w3 ⟨rfl, hst3⟩
              have HRD3 := Lib.hid (hst3.rd HR2.out)
              have hg3 := grown_trans hgs2 (hst3.grown (some g))
              rw [hdS_cons]
              clear hst3
              go_wp2_with (go_at_call 54; refine (escape_some _ (by simp; omega) HPM.out).mono ?_)
              rintro e w5 ⟨rfl, rfl⟩
              obtain ⟨i5, hi5, c5, hf5, hr5⟩ := (HRD3.out).step
              have HR5 := Lib.hid hr5
              have hgs5 := grown_set hg3 1 (.int .i64 ((i5 : Int) + 1))
              clear hr5
              go_wp2
              go_ret3
              exact ⟨hgs5, by rw [← HR.out]; exact ⟨HR5.out, .inl ⟨rfl, rfl⟩⟩⟩
    have g92 : (c == [92]) = false := beq_eq_false_iff_ne.2 h92
    have g92' : (c != [92]) = true := by simp [bne, g92]
    have HR : Hid (some (c, [], r1) = R) := Lib.hid (by rw [← hR]; simp only [itemM, if_neg h93, if_neg h92])
    clear hR h h93 h92
    go_enter Try.func50, Try.ntmps50
    go_wp2_with (go_at_call 22; refine (rsee_any _ HRD.out).mono ?_)
    rintro e w1 ⟨rfl, hst1⟩
    have HRD1 := Lib.hid (hst1.rd HRD.out)
    have hg1 := grown_trans hg0 (hst1.grown (some g))
    rw [hdS_cons]
    obtain ⟨i2, hi2, c2, hf2, hr2⟩ := (HRD1.out).step
    have HR2 := Lib.hid hr2
    have hgs2 := grown_set hg1 1 (.int .i64 ((i2 : Int) + 1))
    clear hr2
    clear hst1
    go_wp2
    go_ret3
    exact ⟨hgs2, by rw [← HR.out]; exact ⟨HR2.out, .inl ⟨rfl, rfl⟩⟩⟩
end Go.Proofs.Ytemophfieihgaaa
set_option maxRecDepth 100000
namespace Go.Proofs.Ytemophfieihgaaa
def boundsR (r : List Str) : Option (Int × Int × List Str) :=
  if 0 < (numR 0 0 r).1 ∧ (numR 0 0 r).2.1 ≤ 255 then
    (match takeM [44] (numR 0 0 r).2.2 with
    | none => (match takeM [125] (numR 0 0 r).2.2 with
      | none => none
      | some r2 => some ((numR 0 0 r).2.1, (numR 0 0 r).2.1, r2))
    | some r2 => match takeM [125] r2 with
      | some r3 => some ((numR 0 0 r).2.1, -1, r3)
      | none => if 0 < (numR 0 0 r2).1 ∧ (numR 0 0 r2).2.1 ≤ 255 then
          (match takeM [125] (numR 0 0 r2).2.2 with
          | none => none
          | some r4 => if (numR 0 0 r2).2.1 < (numR 0 0 r).2.1 then none else some ((numR 0 0 r).2.1, (numR 0 0 r2).2.1, r4)) else none) else none
def headDg : List Str → Bool | [] => false | c :: _ => (digS c).isSome
theorem numL_R : ∀ (r : List Str) (k n : Nat), k ≤ 3 → numL k n r = if (numR k n r).1 = 3 ∧ headDg (numR k n r).2.2 = true then none else if 0 < (numR k n r).1 ∧ (numR k n r).2.1 ≤ 255 then some ((numR k n r).2.1, (numR k n r).2.2) else none
  | [], k, n, _ => by
    rw [if_neg (by simp [numR, headDg])]; rfl
  | c :: r, k, n, hk => by
    cases hd : digS c with
    | none => simp only [numL, numR, hd, headDg]; simp
    | some d =>
      by_cases h3 : k = 3
      · subst h3; simp only [numL, numR, hd, headDg, if_true]; simp
      · simp only [numL, numR, hd, if_neg h3]; exact numL_R r (k + 1) (10 * n + d) (by omega)
theorem dg_take {r : List Str} (h : headDg r = true) : takeM [44] r = none ∧ takeM [125] r = none := by
  cases r with
  | nil => cases h
  | cons c r =>
    constructor
    · simp only [takeM]; rw [if_neg]; rintro rfl; exact absurd ((show (digS [44]).isSome = false by decide).symm.trans h) (by decide)
    · simp only [takeM]; rw [if_neg]; rintro rfl; exact absurd ((show (digS [125]).isSome = false by decide).symm.trans h) (by decide)
theorem take_two {r r1 : List Str} (h : takeM [44] r = some r1) : takeM [125] r = none := by
  rw [takeM_some h]; simp [takeM]
theorem bounds_eq (r : List Str) : boundsR r = boundsM r := by
  unfold boundsR boundsM
  rw [numL_R r 0 0 (by omega)]
  generalize numR 0 0 r = q
  obtain ⟨k, n, r1⟩ := q
  simp only
  by_cases hb : k = 3 ∧ headDg r1 = true
  · obtain ⟨t1, t2⟩ := dg_take hb.2
    rw [if_pos hb, t1, t2]; simp
  rw [if_neg hb]
  by_cases hk : 0 < k ∧ n ≤ 255
  · rw [if_pos hk, if_pos hk]
    simp only
    cases h44 : takeM [44] r1 with
    | none =>
      cases h125 : takeM [125] r1 with
      | none => rfl
      | some r2 => rfl
    | some r2 =>
      rw [take_two h44]
      simp only
      cases h125 : takeM [125] r2 with
      | some r3 => rfl
      | none =>
        simp only
        rw [numL_R r2 0 0 (by omega)]
        generalize numR 0 0 r2 = q2
        obtain ⟨k2, n2, r3⟩ := q2
        simp only
        by_cases hb2 : k2 = 3 ∧ headDg r3 = true
        · rw [if_pos hb2, (dg_take hb2.2).2]; simp
        rw [if_neg hb2]
        by_cases hk2 : 0 < k2 ∧ n2 ≤ 255
        · rw [if_pos hk2, if_pos hk2]
          simp only
          cases h4 : takeM [125] r3 with
          | none => simp
          | some r4 =>
            simp only
            by_cases hl : n2 < n
            · rw [if_pos hl, if_neg (by omega)]
            · rw [if_neg hl, if_pos (by omega)]
        · rw [if_neg hk2, if_neg hk2]
  · rw [if_neg hk, if_neg hk]
end Go.Proofs.Ytemophfieihgaaa
set_option maxRecDepth 100000
namespace Go.Proofs.Ytemophfieihgaaa
open Go.RowKit
theorem rnum_ok {g : Nat} {r r2 : List Str} {k n : Nat} (w : World) (h : Rd2 w g r) (hN : numR 0 0 r = (k, n, r2)) (hk : 0 < k ∧ n ≤ 255) :
    Calls Try.prog 43 #[.pointer (some ⟨g, 0, none⟩)] w fun e w' => e = .returned (.tuple #[.int .i64 n, .bool true]) ∧ Rd2 w' g r2 ∧ w.grownBy w' (some g) := by
  refine (rnumber_any w h).mono ?_
  rintro e w' ⟨h1, h2, h3⟩
  rw [hN] at h2 h3
  refine ⟨?_, h3, h1⟩
  rw [h2]
  exact congrArg (fun b => Ending.returned (.tuple #[.int .i64 (n : Int), .bool b])) (show (decide (0 < k) && decide (n ≤ 255)) = true by rw [decide_eq_true hk.1, decide_eq_true hk.2]; rfl)
theorem rnum_no {g : Nat} {r r2 : List Str} {k n : Nat} (w : World) (h : Rd2 w g r) (hN : numR 0 0 r = (k, n, r2)) (hk : ¬ (0 < k ∧ n ≤ 255)) :
    Calls Try.prog 43 #[.pointer (some ⟨g, 0, none⟩)] w fun e w' => e = .returned (.tuple #[.int .i64 n, .bool false]) ∧ Rd2 w' g r2 ∧ w.grownBy w' (some g) := by
  refine (rnumber_any w h).mono ?_
  rintro e w' ⟨h1, h2, h3⟩
  rw [hN] at h2 h3
  refine ⟨?_, h3, h1⟩
  rw [h2]
  exact congrArg (fun b => Ending.returned (.tuple #[.int .i64 (n : Int), .bool b])) (show (decide (0 < k) && decide (n ≤ 255)) = false by
    rw [← Bool.decide_and]; exact decide_eq_false hk)
def ResQ (g B : Nat) (w : World) (res : Res) (e : Ending) (w' : World) : Prop := w.grownBy w' (some g) ∧ match res with
  | .error q => e = .returned (.tuple #[rxv0, .int .i64 q])
  | .ok (x, r) => ∃ cc : List Value, e = .returned (.tuple #[.agg cc.toArray, .int .i64 0]) ∧ RxV w' (fun b => B ≤ b) cc x ∧ Rd2 w' g r
def TmB (w : World) (B : Nat) (b : Nat) : Prop := B ≤ b ∧ b ≠ w.heap.size + 1 ∧ b ≠ w.heap.size + 3
/-- The state of times: its boxes, the reader. -/
structure TmS (g B : Nat) (w : World) (X : Rx) (xc : List Value) (bx : Obj) (wr : World) (r : List Str) (lo hi : Int) : Prop where
  gr : w.grownBy wr (some g)
  sz : w.heap.size + 4 ≤ wr.heap.size
  rd : Rd2 wr g r
  bx : wr.heap[w.heap.size]? = some bx
  by_ : wr.heap[w.heap.size + 1]? = some (boxO 0 [] false none 0 0 0 0 false none 0 0)
  br : wr.heap[w.heap.size + 3]? = some (boxO 7 [] false none 0 0 lo hi false (some ⟨w.heap.size + 1 + 1, 0, none⟩) 1 1)
  ks : RxSl wr (TmB w B) (some ⟨w.heap.size + 2, 0, none⟩) 1 [X]
  xv : RxV wr (TmB w B) xc X
theorem TmS.go {g B : Nat} {w : World} {X : Rx} {xc : List Value} {bx : Obj} {wr w' : World} {r r' : List Str} {lo hi : Int} (h : TmS g B w X xc bx wr r lo hi) (hq : wr.grownBy w' (some g)) (hrd : Rd2 w' g r') (hg : g < w.heap.size) (hgB : g < B) : TmS g B w X xc bx w' r' lo hi :=
  ⟨grown_trans h.gr hq, Nat.le_trans h.sz hq.size, hrd, box_grown h.bx hq (by omega), box_grown h.by_ hq (by omega), box_grown h.br hq (by omega), h.ks.keep (Kept.grown hq fun b hb => by have : B ≤ b := hb.1; omega), h.xv.keep (Kept.grown hq fun b hb => by have : B ≤ b := hb.1; omega)⟩
theorem TmS.set5 {g B : Nat} {w : World} {X : Rx} {xc : List Value} {bx : Obj} {wr : World} {r : List Str} {lo hi : Int} (h : TmS g B w X xc bx wr r lo hi) (v : Int) (hg : g < w.heap.size) : TmS g B w X xc bx (wr.setCell ⟨w.heap.size + 3, 5, none⟩ (.int .i64 v)) r lo v :=
  ⟨grown_setNew h.gr (by simp) _, by simp [World.setCell]; exact h.sz, h.rd.setHi (by simp; omega) _, box_other h.bx (by simp) _, box_other h.by_ (by simp) _, box_set5 h.br _, h.ks.keep (Kept.setLow _ fun b hb => hb.2.2), h.xv.keep (Kept.setLow _ fun b hb => hb.2.2)⟩
theorem TmS.set4 {g B : Nat} {w : World} {X : Rx} {xc : List Value} {bx : Obj} {wr : World} {r : List Str} {lo hi : Int} (h : TmS g B w X xc bx wr r lo hi) (v : Int) (hg : g < w.heap.size) : TmS g B w X xc bx (wr.setCell ⟨w.heap.size + 3, 4, none⟩ (.int .i64 v)) r v hi :=
  ⟨grown_setNew h.gr (by simp) _, by simp [World.setCell]; exact h.sz, h.rd.setHi (by simp; omega) _, box_other h.bx (by simp) _, box_other h.by_ (by simp) _, box_set4 h.br _, h.ks.keep (Kept.setLow _ fun b hb => hb.2.2), h.xv.keep (Kept.setLow _ fun b hb => hb.2.2)⟩
/- the first look: at the world that the boxes make -/
/- the last look: is it lazy? -/
theorem takeM_head {c p : Str} {r : List Str} (h : takeM c (p :: r) = none) : p ≠ c := by intro e; rw [takeM, if_pos e] at h; cases h
set_option maxHeartbeats 4000000 in
theorem times_any {g B : Nat} {r : List Str} {cc : List Value} {x : Rx} (w : World) (h : Rd2 w g r) (hx : RxV w (fun b => B ≤ b) cc x) (hB : B ≤ w.heap.size) (hgB : g < B) :
    Calls Try.prog 31 #[.pointer (some ⟨g, 0, none⟩), .agg cc.toArray] w fun e w' => ResQ g B w (quantM x r) e w' := by
  obtain ⟨R, hR⟩ : ∃ R, quantM x r = R := ⟨_, rfl⟩
  rw [hR]
  have hgr : g < w.heap.size := by omega
  obtain ⟨X, hX⟩ : ∃ X, X = x := ⟨_, rfl⟩
  rw [← hX] at hR hx
  obtain ⟨k, c, ng, rs, lo, hi, lz, ks⟩ := x
  obtain ⟨ra, rc, ka, kc, rfl, hrs, hks⟩ := (hX ▸ hx : RxV w (fun b => B ≤ b) cc (.mk k c ng rs lo hi lz ks)).open_
  obtain ⟨w0, hw0⟩ : ∃ w0, w0 = (((w.alloc (.cells (rxc k c ng ra rs.length rc lo hi lz ka ks.length kc).toArray 26)).alloc (.cells #[.int .i64 0, .string ⟨#[]⟩, .bool false, .slice none 0 0, .int .i64 0, .int .i64 0, .bool false, .slice none 0 0] 26)).alloc (.cells (rxc k c ng ra rs.length rc lo hi lz ka ks.length kc).toArray 26)).alloc (.cells #[.int .i64 7, .string ⟨#[]⟩, .bool false, .slice none 0 0, .int .i64 0, .int .i64 (-1), .bool false, .slice (some ⟨w.heap.size + 1 + 1, 0, none⟩) 1 1] 26) := ⟨_, rfl⟩
  obtain ⟨hb0, hz0, hbx0, hby0, hbs0, hbr0⟩ := alloc4 w _ _ _ _ _ hw0
  have hxs : RxV w0 (TmB w B) (rxc k c ng ra rs.length rc lo hi lz ka ks.length kc) X :=
    (hx.mono (S' := TmB w B) fun b hb hlt => ⟨hb, by omega, by omega⟩).later hb0
  have HRD := Lib.hid (h.later hb0)
  have HS0 : Hid (TmS g B w X (rxc k c ng ra rs.length rc lo hi lz ka ks.length kc) (.cells (rxc k c ng ra rs.length rc lo hi lz ka ks.length kc).toArray 26 (0, 0)) w0 r 0 (-1)) := Lib.hid ⟨grown_of_below hb0 _, by omega, HRD.out, hbx0, hby0, hbr0, RxSl.one hxs hbs0 ⟨by omega, by omega, by omega⟩, hxs⟩
  unfold rxc at hw0
  rw [hw0] at HRD
  have HW0 := Lib.hid hw0
  clear hw0 hbx0 hby0 hbs0 hbr0 hxs hx hrs hks h
  unfold rxc
  cases h42 : takeM [42] r with
  | some r9 =>
    have HR : Hid (Except.ok (lazyM X 0 (-1) r9) = R) := Lib.hid (by rw [← hR, takeM_some h42]; rfl)
    have HT0 := Lib.hid h42
    clear hR h42
    go_enter Try.func31, Try.ntmps31
    go_wp2_with (go_at_call 25; refine (rtake_some _ HRD.out HT0.out).mono ?_)
    first | rintro e w1 rfl hrd1 hq1 | rintro e w1 ⟨rfl, hrd1, hq1⟩
    rw [← HW0.out] at hq1
    have HS1 := Lib.hid (HS0.out.go hq1 hrd1 hgr hgB)
    clear hrd1 hq1
    cases ht63 : takeM [63] r9 with
    | none =>
      have HT := Lib.hid ht63
      have HRR : Hid (.ok (repR 0 (-1) false X, r9) = R) := Lib.hid (by rw [← HR.out]; simp only [lazyM, ht63])
      clear ht63
      go_wp2_with (go_at_call 25; refine (rtake_no _ _ HS1.out.rd HT.out).mono ?_)
      first | rintro e w2 rfl hrd2 hq2 | rintro e w2 ⟨rfl, hrd2, hq2⟩
      have HS2 := Lib.hid (HS1.out.go hq2 hrd2 hgr hgB)
      clear hrd2 hq2
      have HR := HRR
      obtain ⟨f0, f1, f2, f3, f4, f5, f6, f7, f8⟩ := bx_cells (c := []) HS2.out.by_
      obtain ⟨e0, e1, e2, e3, e4, e5, e6, e7, e8⟩ := bx_cells (c := []) HS2.out.br
      have e84 := e8 4 (by omega)
      have e85 := e8 5 (by omega)
      have e86 := e8 6 (by omega)
      clear e8
      go_wp2
      refine bodyPost_ret (v := .tuple #[.agg #[.int .i64 7, .string ⟨([]).toArray⟩, .bool false, .slice none ([] : List Row).length 0, .int .i64 0, .int .i64 (-1), .bool false, .slice (some ⟨w.heap.size + 1 + 1, 0, none⟩) [X].length 1], .int .i64 0]) (by simp [results, Try.results31, go_sem, f0, f1, f2, f3, f4, f5, f6, f7]) rfl ?_
      refine ⟨?_, ?_⟩
      · repeat (refine grown_setNew ?_ (by first | (simp; done) | (simp; omega)) _)
        exact HS2.out.gr
      rw [← HR.out]
      refine ⟨rxc 7 [] false none ([] : List Row).length 0 0 (-1) false (some ⟨w.heap.size + 1 + 1, 0, none⟩) [X].length 1, rfl, RxV.mono (S := TmB w B) (fun b hb _ => hb.1) ?_, ?_⟩
      · iterate 9 (refine RxV.keep (Kept.setLow _ (fun b hb => by have hb : B ≤ b ∧ b ≠ w.heap.size + 1 ∧ b ≠ w.heap.size + 3 := hb; first | omega | (simp; done) | (simp; omega))) ?_)
        exact RxV.close (SlS.none_ _ _ _ _) HS2.out.ks
      · iterate 9 (refine RdT.setHi ?_ (by first | (simp; done) | (simp; omega)) _)
        exact HS2.out.rd
    | some r8 =>
      have HT := Lib.hid ht63
      have HRR : Hid (.ok (repR 0 (-1) true X, r8) = R) := Lib.hid (by rw [← HR.out]; simp only [lazyM, ht63])
      clear ht63
      go_wp2_with (go_at_call 25; refine (rtake_some _ HS1.out.rd HT.out).mono ?_)
      first | rintro e w2 rfl hrd2 hq2 | rintro e w2 ⟨rfl, hrd2, hq2⟩
      have HS2 := Lib.hid (HS1.out.go hq2 hrd2 hgr hgB)
      clear hrd2 hq2
      have HR := HRR
      obtain ⟨f0, f1, f2, f3, f4, f5, f6, f7, f8⟩ := bx_cells (c := []) HS2.out.by_
      obtain ⟨e0, e1, e2, e3, e4, e5, e6, e7, e8⟩ := bx_cells (c := []) HS2.out.br
      have e84 := e8 4 (by omega)
      have e85 := e8 5 (by omega)
      have e86 := e8 6 (by omega)
      clear e8
      go_wp2
      refine bodyPost_ret (v := .tuple #[.agg #[.int .i64 7, .string ⟨([]).toArray⟩, .bool false, .slice none ([] : List Row).length 0, .int .i64 0, .int .i64 (-1), .bool true, .slice (some ⟨w.heap.size + 1 + 1, 0, none⟩) [X].length 1], .int .i64 0]) (by simp [results, Try.results31, go_sem, f0, f1, f2, f3, f4, f5, f6, f7]) rfl ?_
      refine ⟨?_, ?_⟩
      · repeat (refine grown_setNew ?_ (by first | (simp; done) | (simp; omega)) _)
        exact HS2.out.gr
      rw [← HR.out]
      refine ⟨rxc 7 [] false none ([] : List Row).length 0 0 (-1) true (some ⟨w.heap.size + 1 + 1, 0, none⟩) [X].length 1, rfl, RxV.mono (S := TmB w B) (fun b hb _ => hb.1) ?_, ?_⟩
      · iterate 9 (refine RxV.keep (Kept.setLow _ (fun b hb => by have hb : B ≤ b ∧ b ≠ w.heap.size + 1 ∧ b ≠ w.heap.size + 3 := hb; first | omega | (simp; done) | (simp; omega))) ?_)
        exact RxV.close (SlS.none_ _ _ _ _) HS2.out.ks
      · iterate 9 (refine RdT.setHi ?_ (by first | (simp; done) | (simp; omega)) _)
        exact HS2.out.rd
  | none =>
  have HT42 := Lib.hid h42
  cases h43 : takeM [43] r with
  | some r9 =>
    have HR : Hid (Except.ok (lazyM X 1 (-1) r9) = R) := Lib.hid (by rw [← hR, takeM_some h43]; rfl)
    have HT0 := Lib.hid h43
    clear hR h42 h43
    go_enter Try.func31, Try.ntmps31
    go_wp2_with (go_at_call 25; refine (rtake_no _ _ HRD.out HT42.out).mono ?_)
    first | rintro e w1 rfl hrd1 hq1 | rintro e w1 ⟨rfl, hrd1, hq1⟩
    rw [← HW0.out] at hq1
    have HS1 := Lib.hid (HS0.out.go hq1 hrd1 hgr hgB)
    clear hrd1 hq1
    go_wp2_with (go_at_call 25; refine (rtake_some _ HS1.out.rd HT0.out).mono ?_)
    first | rintro e w2 rfl hrd2 hq2 | rintro e w2 ⟨rfl, hrd2, hq2⟩
    have HS2 := Lib.hid (HS1.out.go hq2 hrd2 hgr hgB)
    clear hrd2 hq2
    obtain ⟨f0, f1, f2, f3, f4, f5, f6, f7, f8⟩ := bx_cells (c := []) HS2.out.by_
    obtain ⟨e0, e1, e2, e3, e4, e5, e6, e7, e8⟩ := bx_cells (c := []) HS2.out.br
    have e84 := e8 4 (by omega)
    have e85 := e8 5 (by omega)
    have e86 := e8 6 (by omega)
    clear e8
    have HS3 := Lib.hid (HS2.out.set4 1 hgr)
    go_upto_region 20 with fail
    clear f0 f1 f2 f3 f4 f5 f6 f7 f8 e0 e1 e2 e3 e4 e5 e6 e7 e84 e85 e86
    cases ht63 : takeM [63] r9 with
    | none =>
      have HT := Lib.hid ht63
      have HRR : Hid (.ok (repR 1 (-1) false X, r9) = R) := Lib.hid (by rw [← HR.out]; simp only [lazyM, ht63])
      clear ht63
      go_wp2_with (go_at_call 25; refine (rtake_no _ _ HS3.out.rd HT.out).mono ?_)
      first | rintro e w4 rfl hrd4 hq4 | rintro e w4 ⟨rfl, hrd4, hq4⟩
      have HS4 := Lib.hid (HS3.out.go hq4 hrd4 hgr hgB)
      clear hrd4 hq4
      have HR := HRR
      obtain ⟨f0, f1, f2, f3, f4, f5, f6, f7, f8⟩ := bx_cells (c := []) HS4.out.by_
      obtain ⟨e0, e1, e2, e3, e4, e5, e6, e7, e8⟩ := bx_cells (c := []) HS4.out.br
      have e84 := e8 4 (by omega)
      have e85 := e8 5 (by omega)
      have e86 := e8 6 (by omega)
      clear e8
      go_wp2
      refine bodyPost_ret (v := .tuple #[.agg #[.int .i64 7, .string ⟨([]).toArray⟩, .bool false, .slice none ([] : List Row).length 0, .int .i64 1, .int .i64 (-1), .bool false, .slice (some ⟨w.heap.size + 1 + 1, 0, none⟩) [X].length 1], .int .i64 0]) (by simp [results, Try.results31, go_sem, f0, f1, f2, f3, f4, f5, f6, f7]) rfl ?_
      refine ⟨?_, ?_⟩
      · repeat (refine grown_setNew ?_ (by first | (simp; done) | (simp; omega)) _)
        exact HS4.out.gr
      rw [← HR.out]
      refine ⟨rxc 7 [] false none ([] : List Row).length 0 1 (-1) false (some ⟨w.heap.size + 1 + 1, 0, none⟩) [X].length 1, rfl, RxV.mono (S := TmB w B) (fun b hb _ => hb.1) ?_, ?_⟩
      · iterate 9 (refine RxV.keep (Kept.setLow _ (fun b hb => by have hb : B ≤ b ∧ b ≠ w.heap.size + 1 ∧ b ≠ w.heap.size + 3 := hb; first | omega | (simp; done) | (simp; omega))) ?_)
        exact RxV.close (SlS.none_ _ _ _ _) HS4.out.ks
      · iterate 9 (refine RdT.setHi ?_ (by first | (simp; done) | (simp; omega)) _)
        exact HS4.out.rd
    | some r8 =>
      have HT := Lib.hid ht63
      have HRR : Hid (.ok (repR 1 (-1) true X, r8) = R) := Lib.hid (by rw [← HR.out]; simp only [lazyM, ht63])
      clear ht63
      go_wp2_with (go_at_call 25; refine (rtake_some _ HS3.out.rd HT.out).mono ?_)
      first | rintro e w4 rfl hrd4 hq4 | rintro e w4 ⟨rfl, hrd4, hq4⟩
      have HS4 := Lib.hid (HS3.out.go hq4 hrd4 hgr hgB)
      clear hrd4 hq4
      have HR := HRR
      obtain ⟨f0, f1, f2, f3, f4, f5, f6, f7, f8⟩ := bx_cells (c := []) HS4.out.by_
      obtain ⟨e0, e1, e2, e3, e4, e5, e6, e7, e8⟩ := bx_cells (c := []) HS4.out.br
      have e84 := e8 4 (by omega)
      have e85 := e8 5 (by omega)
      have e86 := e8 6 (by omega)
      clear e8
      go_wp2
      refine bodyPost_ret (v := .tuple #[.agg #[.int .i64 7, .string ⟨([]).toArray⟩, .bool false, .slice none ([] : List Row).length 0, .int .i64 1, .int .i64 (-1), .bool true, .slice (some ⟨w.heap.size + 1 + 1, 0, none⟩) [X].length 1], .int .i64 0]) (by simp [results, Try.results31, go_sem, f0, f1, f2, f3, f4, f5, f6, f7]) rfl ?_
      refine ⟨?_, ?_⟩
      · repeat (refine grown_setNew ?_ (by first | (simp; done) | (simp; omega)) _)
        exact HS4.out.gr
      rw [← HR.out]
      refine ⟨rxc 7 [] false none ([] : List Row).length 0 1 (-1) true (some ⟨w.heap.size + 1 + 1, 0, none⟩) [X].length 1, rfl, RxV.mono (S := TmB w B) (fun b hb _ => hb.1) ?_, ?_⟩
      · iterate 9 (refine RxV.keep (Kept.setLow _ (fun b hb => by have hb : B ≤ b ∧ b ≠ w.heap.size + 1 ∧ b ≠ w.heap.size + 3 := hb; first | omega | (simp; done) | (simp; omega))) ?_)
        exact RxV.close (SlS.none_ _ _ _ _) HS4.out.ks
      · iterate 9 (refine RdT.setHi ?_ (by first | (simp; done) | (simp; omega)) _)
        exact HS4.out.rd
  | none =>
  have HT43 := Lib.hid h43
  cases h63 : takeM [63] r with
  | some r9 =>
    have HR : Hid (Except.ok (lazyM X 0 1 r9) = R) := Lib.hid (by rw [← hR, takeM_some h63]; rfl)
    have HT0 := Lib.hid h63
    clear hR h42 h43 h63
    go_enter Try.func31, Try.ntmps31
    go_wp2_with (go_at_call 25; refine (rtake_no _ _ HRD.out HT42.out).mono ?_)
    first | rintro e w1 rfl hrd1 hq1 | rintro e w1 ⟨rfl, hrd1, hq1⟩
    rw [← HW0.out] at hq1
    have HS1 := Lib.hid (HS0.out.go hq1 hrd1 hgr hgB)
    clear hrd1 hq1
    go_wp2_with (go_at_call 25; refine (rtake_no _ _ HS1.out.rd HT43.out).mono ?_)
    first | rintro e w2 rfl hrd2 hq2 | rintro e w2 ⟨rfl, hrd2, hq2⟩
    have HS2 := Lib.hid (HS1.out.go hq2 hrd2 hgr hgB)
    clear hrd2 hq2
    go_wp2_with (go_at_call 25; refine (rtake_some _ HS2.out.rd HT0.out).mono ?_)
    first | rintro e w3 rfl hrd3 hq3 | rintro e w3 ⟨rfl, hrd3, hq3⟩
    have HS3 := Lib.hid (HS2.out.go hq3 hrd3 hgr hgB)
    clear hrd3 hq3
    obtain ⟨f0, f1, f2, f3, f4, f5, f6, f7, f8⟩ := bx_cells (c := []) HS3.out.by_
    obtain ⟨e0, e1, e2, e3, e4, e5, e6, e7, e8⟩ := bx_cells (c := []) HS3.out.br
    have e84 := e8 4 (by omega)
    have e85 := e8 5 (by omega)
    have e86 := e8 6 (by omega)
    clear e8
    have HS4 := Lib.hid (HS3.out.set5 1 hgr)
    go_upto_region 20 with fail
    clear f0 f1 f2 f3 f4 f5 f6 f7 f8 e0 e1 e2 e3 e4 e5 e6 e7 e84 e85 e86
    cases ht63 : takeM [63] r9 with
    | none =>
      have HT := Lib.hid ht63
      have HRR : Hid (.ok (repR 0 1 false X, r9) = R) := Lib.hid (by rw [← HR.out]; simp only [lazyM, ht63])
      clear ht63
      go_wp2_with (go_at_call 25; refine (rtake_no _ _ HS4.out.rd HT.out).mono ?_)
      first | rintro e w5 rfl hrd5 hq5 | rintro e w5 ⟨rfl, hrd5, hq5⟩
      have HS5 := Lib.hid (HS4.out.go hq5 hrd5 hgr hgB)
      clear hrd5 hq5
      have HR := HRR
      obtain ⟨f0, f1, f2, f3, f4, f5, f6, f7, f8⟩ := bx_cells (c := []) HS5.out.by_
      obtain ⟨e0, e1, e2, e3, e4, e5, e6, e7, e8⟩ := bx_cells (c := []) HS5.out.br
      have e84 := e8 4 (by omega)
      have e85 := e8 5 (by omega)
      have e86 := e8 6 (by omega)
      clear e8
      go_wp2
      refine bodyPost_ret (v := .tuple #[.agg #[.int .i64 7, .string ⟨([]).toArray⟩, .bool false, .slice none ([] : List Row).length 0, .int .i64 0, .int .i64 1, .bool false, .slice (some ⟨w.heap.size + 1 + 1, 0, none⟩) [X].length 1], .int .i64 0]) (by simp [results, Try.results31, go_sem, f0, f1, f2, f3, f4, f5, f6, f7]) rfl ?_
      refine ⟨?_, ?_⟩
      · repeat (refine grown_setNew ?_ (by first | (simp; done) | (simp; omega)) _)
        exact HS5.out.gr
      rw [← HR.out]
      refine ⟨rxc 7 [] false none ([] : List Row).length 0 0 1 false (some ⟨w.heap.size + 1 + 1, 0, none⟩) [X].length 1, rfl, RxV.mono (S := TmB w B) (fun b hb _ => hb.1) ?_, ?_⟩
      · iterate 9 (refine RxV.keep (Kept.setLow _ (fun b hb => by have hb : B ≤ b ∧ b ≠ w.heap.size + 1 ∧ b ≠ w.heap.size + 3 := hb; first | omega | (simp; done) | (simp; omega))) ?_)
        exact RxV.close (SlS.none_ _ _ _ _) HS5.out.ks
      · iterate 9 (refine RdT.setHi ?_ (by first | (simp; done) | (simp; omega)) _)
        exact HS5.out.rd
    | some r8 =>
      have HT := Lib.hid ht63
      have HRR : Hid (.ok (repR 0 1 true X, r8) = R) := Lib.hid (by rw [← HR.out]; simp only [lazyM, ht63])
      clear ht63
      go_wp2_with (go_at_call 25; refine (rtake_some _ HS4.out.rd HT.out).mono ?_)
      first | rintro e w5 rfl hrd5 hq5 | rintro e w5 ⟨rfl, hrd5, hq5⟩
      have HS5 := Lib.hid (HS4.out.go hq5 hrd5 hgr hgB)
      clear hrd5 hq5
      have HR := HRR
      obtain ⟨f0, f1, f2, f3, f4, f5, f6, f7, f8⟩ := bx_cells (c := []) HS5.out.by_
      obtain ⟨e0, e1, e2, e3, e4, e5, e6, e7, e8⟩ := bx_cells (c := []) HS5.out.br
      have e84 := e8 4 (by omega)
      have e85 := e8 5 (by omega)
      have e86 := e8 6 (by omega)
      clear e8
      go_wp2
      refine bodyPost_ret (v := .tuple #[.agg #[.int .i64 7, .string ⟨([]).toArray⟩, .bool false, .slice none ([] : List Row).length 0, .int .i64 0, .int .i64 1, .bool true, .slice (some ⟨w.heap.size + 1 + 1, 0, none⟩) [X].length 1], .int .i64 0]) (by simp [results, Try.results31, go_sem, f0, f1, f2, f3, f4, f5, f6, f7]) rfl ?_
      refine ⟨?_, ?_⟩
      · repeat (refine grown_setNew ?_ (by first | (simp; done) | (simp; omega)) _)
        exact HS5.out.gr
      rw [← HR.out]
      refine ⟨rxc 7 [] false none ([] : List Row).length 0 0 1 true (some ⟨w.heap.size + 1 + 1, 0, none⟩) [X].length 1, rfl, RxV.mono (S := TmB w B) (fun b hb _ => hb.1) ?_, ?_⟩
      · iterate 9 (refine RxV.keep (Kept.setLow _ (fun b hb => by have hb : B ≤ b ∧ b ≠ w.heap.size + 1 ∧ b ≠ w.heap.size + 3 := hb; first | omega | (simp; done) | (simp; omega))) ?_)
        exact RxV.close (SlS.none_ _ _ _ _) HS5.out.ks
      · iterate 9 (refine RdT.setHi ?_ (by first | (simp; done) | (simp; omega)) _)
        exact HS5.out.rd
  | none =>
  have HT63 := Lib.hid h63
  cases h123 : takeM [123] r with
  | none =>
    have HT123 := Lib.hid h123
    have HR : Hid (Except.ok (X, r) = R) := Lib.hid (by
      rw [← hR]
      cases r with
      | nil => rfl
      | cons p r => simp only [quantM]; rw [if_neg (takeM_head h42), if_neg (takeM_head h43), if_neg (takeM_head h63), if_neg (takeM_head h123)])
    clear hR h42 h43 h63 h123
    go_enter Try.func31, Try.ntmps31
    go_wp2_with (go_at_call 25; refine (rtake_no _ _ HRD.out HT42.out).mono ?_)
    first | rintro e w1 rfl hrd1 hq1 | rintro e w1 ⟨rfl, hrd1, hq1⟩
    rw [← HW0.out] at hq1
    have HS1 := Lib.hid (HS0.out.go hq1 hrd1 hgr hgB)
    clear hrd1 hq1
    go_wp2_with (go_at_call 25; refine (rtake_no _ _ HS1.out.rd HT43.out).mono ?_)
    first | rintro e w2 rfl hrd2 hq2 | rintro e w2 ⟨rfl, hrd2, hq2⟩
    have HS2 := Lib.hid (HS1.out.go hq2 hrd2 hgr hgB)
    clear hrd2 hq2
    go_wp2_with (go_at_call 25; refine (rtake_no _ _ HS2.out.rd HT63.out).mono ?_)
    first | rintro e w3 rfl hrd3 hq3 | rintro e w3 ⟨rfl, hrd3, hq3⟩
    have HS3 := Lib.hid (HS2.out.go hq3 hrd3 hgr hgB)
    clear hrd3 hq3
    go_wp2_with (go_at_call 25; refine (rtake_no _ _ HS3.out.rd HT123.out).mono ?_)
    first | rintro e w4 rfl hrd4 hq4 | rintro e w4 ⟨rfl, hrd4, hq4⟩
    have HS4 := Lib.hid (HS3.out.go hq4 hrd4 hgr hgB)
    clear hrd4 hq4
    obtain ⟨f0, f1, f2, f3, f4, f5, f6, f7, f8⟩ := bx_cells (c := []) HS4.out.by_
    obtain ⟨e0, e1, e2, e3, e4, e5, e6, e7, e8⟩ := bx_cells HS4.out.bx
    have HXS4 := Lib.hid HS4.out.xv
    go_wp2
    refine bodyPost_ret (v := .tuple #[.agg #[.int .i64 k, .string ⟨(c).toArray⟩, .bool ng, .slice ra rs.length rc, .int .i64 lo, .int .i64 hi, .bool lz, .slice ka ks.length kc], .int .i64 0]) (by simp [results, Try.results31, go_sem, f0, f1, f2, f3, f4, f5, f6, f7]) rfl ?_
    refine ⟨?_, ?_⟩
    · repeat (refine grown_setNew ?_ (by first | (simp; done) | (simp; omega)) _)
      exact HS4.out.gr
    rw [← HR.out]
    refine ⟨rxc k c ng ra rs.length rc lo hi lz ka ks.length kc, rfl, RxV.mono (S := TmB w B) (fun b hb _ => hb.1) ?_, ?_⟩
    · iterate 8 (refine RxV.keep (Kept.setLow _ (fun b hb => by have hb : B ≤ b ∧ b ≠ w.heap.size + 1 ∧ b ≠ w.heap.size + 3 := hb; first | omega | (simp; done) | (simp; omega))) ?_)
      exact HXS4.out
    · iterate 8 (refine RdT.setHi ?_ (by first | (simp; done) | (simp; omega)) _)
      exact HS4.out.rd
  | some r1 =>
    have HT123 := Lib.hid h123
    have hR2 : (match boundsR r1 with | none => .error 10 | some (lo, hi, r9) => .ok (lazyM X lo hi r9)) = R := by
      rw [← hR, takeM_some h123, bounds_eq]; rfl
    obtain ⟨⟨n1, m1, r2⟩, hN1⟩ : ∃ q, numR 0 0 r1 = q := ⟨_, rfl⟩
    have HN1 := Lib.hid hN1
    unfold boundsR at hR2
    rw [hN1] at hR2
    simp only at hR2
    clear hR h42 h43 h63 h123 hN1
    by_cases hk1 : 0 < n1 ∧ m1 ≤ 255
    case neg =>
      rw [if_neg hk1] at hR2
      have HR := Lib.hid hR2
      have HK1 := Lib.hid hk1
      clear hR2 hk1
      go_enter Try.func31, Try.ntmps31
      go_wp2_with (go_at_call 25; refine (rtake_no _ _ HRD.out HT42.out).mono ?_)
      first | rintro e w1 rfl hrd1 hq1 | rintro e w1 ⟨rfl, hrd1, hq1⟩
      rw [← HW0.out] at hq1
      have HS1 := Lib.hid (HS0.out.go hq1 hrd1 hgr hgB)
      clear hrd1 hq1
      go_wp2_with (go_at_call 25; refine (rtake_no _ _ HS1.out.rd HT43.out).mono ?_)
      first | rintro e w2 rfl hrd2 hq2 | rintro e w2 ⟨rfl, hrd2, hq2⟩
      have HS2 := Lib.hid (HS1.out.go hq2 hrd2 hgr hgB)
      clear hrd2 hq2
      go_wp2_with (go_at_call 25; refine (rtake_no _ _ HS2.out.rd HT63.out).mono ?_)
      first | rintro e w3 rfl hrd3 hq3 | rintro e w3 ⟨rfl, hrd3, hq3⟩
      have HS3 := Lib.hid (HS2.out.go hq3 hrd3 hgr hgB)
      clear hrd3 hq3
      go_wp2_with (go_at_call 25; refine (rtake_some _ HS3.out.rd HT123.out).mono ?_)
      first | rintro e w4 rfl hrd4 hq4 | rintro e w4 ⟨rfl, hrd4, hq4⟩
      have HS4 := Lib.hid (HS3.out.go hq4 hrd4 hgr hgB)
      clear hrd4 hq4
      go_wp2_with (go_at_call 43; refine (rnum_no _ HS4.out.rd HN1.out HK1.out).mono ?_)
      first | rintro e w5 rfl hrd5 hq5 | rintro e w5 ⟨rfl, hrd5, hq5⟩
      have HS5 := Lib.hid (HS4.out.go hq5 hrd5 hgr hgB)
      clear hrd5 hq5
      obtain ⟨f0, f1, f2, f3, f4, f5, f6, f7, f8⟩ := bx_cells (c := []) HS5.out.by_
      obtain ⟨e0, e1, e2, e3, e4, e5, e6, e7, e8⟩ := bx_cells (c := []) HS5.out.br
      have e84 := e8 4 (by omega)
      have e85 := e8 5 (by omega)
      have e86 := e8 6 (by omega)
      clear e8
      go_wp2
      refine bodyPost_ret (v := .tuple #[.agg #[.int .i64 0, .string ⟨([]).toArray⟩, .bool false, .slice none 0 0, .int .i64 0, .int .i64 0, .bool false, .slice none 0 0], .int .i64 10]) (by simp [results, Try.results31, go_sem, f0, f1, f2, f3, f4, f5, f6, f7]) rfl ?_
      refine ⟨?_, ?_⟩
      · iterate 8 (refine grown_setNew ?_ (by first | (simp; done) | (simp; omega)) _)
        exact HS5.out.gr
      · rw [← HR.out]; rfl
    rw [if_pos hk1] at hR2
    have HK1 := Lib.hid hk1
    have hm1 := hk1.2
    clear hk1
    cases h44 : takeM [44] r2 with
    | none =>
      rw [h44] at hR2
      have HT44 := Lib.hid h44
      clear h44
      cases h5 : takeM [125] r2 with
      | none =>
        rw [h5] at hR2
        have HR := Lib.hid hR2
        have HT5 := Lib.hid h5
        clear hR2 h5
        go_enter Try.func31, Try.ntmps31
        go_wp2_with (go_at_call 25; refine (rtake_no _ _ HRD.out HT42.out).mono ?_)
        first | rintro e w1 rfl hrd1 hq1 | rintro e w1 ⟨rfl, hrd1, hq1⟩
        rw [← HW0.out] at hq1
        have HS1 := Lib.hid (HS0.out.go hq1 hrd1 hgr hgB)
        clear hrd1 hq1
        go_wp2_with (go_at_call 25; refine (rtake_no _ _ HS1.out.rd HT43.out).mono ?_)
        first | rintro e w2 rfl hrd2 hq2 | rintro e w2 ⟨rfl, hrd2, hq2⟩
        have HS2 := Lib.hid (HS1.out.go hq2 hrd2 hgr hgB)
        clear hrd2 hq2
        go_wp2_with (go_at_call 25; refine (rtake_no _ _ HS2.out.rd HT63.out).mono ?_)
        first | rintro e w3 rfl hrd3 hq3 | rintro e w3 ⟨rfl, hrd3, hq3⟩
        have HS3 := Lib.hid (HS2.out.go hq3 hrd3 hgr hgB)
        clear hrd3 hq3
        go_wp2_with (go_at_call 25; refine (rtake_some _ HS3.out.rd HT123.out).mono ?_)
        first | rintro e w4 rfl hrd4 hq4 | rintro e w4 ⟨rfl, hrd4, hq4⟩
        have HS4 := Lib.hid (HS3.out.go hq4 hrd4 hgr hgB)
        clear hrd4 hq4
        go_wp2_with (go_at_call 43; refine (rnum_ok _ HS4.out.rd HN1.out HK1.out).mono ?_)
        first | rintro e w5 rfl hrd5 hq5 | rintro e w5 ⟨rfl, hrd5, hq5⟩
        have HS5 := Lib.hid (HS4.out.go hq5 hrd5 hgr hgB)
        clear hrd5 hq5
        obtain ⟨f0, f1, f2, f3, f4, f5, f6, f7, f8⟩ := bx_cells (c := []) HS5.out.by_
        obtain ⟨e0, e1, e2, e3, e4, e5, e6, e7, e8⟩ := bx_cells (c := []) HS5.out.br
        have e84 := e8 4 (by omega)
        have e85 := e8 5 (by omega)
        have e86 := e8 6 (by omega)
        clear e8
        have HS6 := Lib.hid (HS5.out.set4 (m1 : Int) hgr)
        have HS7 := Lib.hid (HS6.out.set5 (m1 : Int) hgr)
        go_upto_region 14 with fail
        clear f0 f1 f2 f3 f4 f5 f6 f7 f8 e0 e1 e2 e3 e4 e5 e6 e7 e84 e85 e86
        go_wp2_with (go_at_call 25; refine (rtake_no _ _ HS7.out.rd HT44.out).mono ?_)
        first | rintro e w8 rfl hrd8 hq8 | rintro e w8 ⟨rfl, hrd8, hq8⟩
        have HS8 := Lib.hid (HS7.out.go hq8 hrd8 hgr hgB)
        clear hrd8 hq8
        go_wp2_with (go_at_call 25; refine (rtake_no _ _ HS8.out.rd HT5.out).mono ?_)
        first | rintro e w9 rfl hrd9 hq9 | rintro e w9 ⟨rfl, hrd9, hq9⟩
        have HS9 := Lib.hid (HS8.out.go hq9 hrd9 hgr hgB)
        clear hrd9 hq9
        obtain ⟨f0, f1, f2, f3, f4, f5, f6, f7, f8⟩ := bx_cells (c := []) HS9.out.by_
        obtain ⟨e0, e1, e2, e3, e4, e5, e6, e7, e8⟩ := bx_cells (c := []) HS9.out.br
        have e84 := e8 4 (by omega)
        have e85 := e8 5 (by omega)
        have e86 := e8 6 (by omega)
        clear e8
        go_wp2
        refine bodyPost_ret (v := .tuple #[.agg #[.int .i64 0, .string ⟨([]).toArray⟩, .bool false, .slice none 0 0, .int .i64 0, .int .i64 0, .bool false, .slice none 0 0], .int .i64 10]) (by simp [results, Try.results31, go_sem, f0, f1, f2, f3, f4, f5, f6, f7]) rfl ?_
        refine ⟨?_, ?_⟩
        · iterate 8 (refine grown_setNew ?_ (by first | (simp; done) | (simp; omega)) _)
          exact HS9.out.gr
        · rw [← HR.out]; rfl
      | some r9 =>
        rw [h5] at hR2
        have HR : Hid (Except.ok (lazyM X m1 m1 r9) = R) := Lib.hid hR2
        have HT5 := Lib.hid h5
        clear hR2 h5
        go_enter Try.func31, Try.ntmps31
        go_wp2_with (go_at_call 25; refine (rtake_no _ _ HRD.out HT42.out).mono ?_)
        first | rintro e w1 rfl hrd1 hq1 | rintro e w1 ⟨rfl, hrd1, hq1⟩
        rw [← HW0.out] at hq1
        have HS1 := Lib.hid (HS0.out.go hq1 hrd1 hgr hgB)
        clear hrd1 hq1
        go_wp2_with (go_at_call 25; refine (rtake_no _ _ HS1.out.rd HT43.out).mono ?_)
        first | rintro e w2 rfl hrd2 hq2 | rintro e w2 ⟨rfl, hrd2, hq2⟩
        have HS2 := Lib.hid (HS1.out.go hq2 hrd2 hgr hgB)
        clear hrd2 hq2
        go_wp2_with (go_at_call 25; refine (rtake_no _ _ HS2.out.rd HT63.out).mono ?_)
        first | rintro e w3 rfl hrd3 hq3 | rintro e w3 ⟨rfl, hrd3, hq3⟩
        have HS3 := Lib.hid (HS2.out.go hq3 hrd3 hgr hgB)
        clear hrd3 hq3
        go_wp2_with (go_at_call 25; refine (rtake_some _ HS3.out.rd HT123.out).mono ?_)
        first | rintro e w4 rfl hrd4 hq4 | rintro e w4 ⟨rfl, hrd4, hq4⟩
        have HS4 := Lib.hid (HS3.out.go hq4 hrd4 hgr hgB)
        clear hrd4 hq4
        go_wp2_with (go_at_call 43; refine (rnum_ok _ HS4.out.rd HN1.out HK1.out).mono ?_)
        first | rintro e w5 rfl hrd5 hq5 | rintro e w5 ⟨rfl, hrd5, hq5⟩
        have HS5 := Lib.hid (HS4.out.go hq5 hrd5 hgr hgB)
        clear hrd5 hq5
        obtain ⟨f0, f1, f2, f3, f4, f5, f6, f7, f8⟩ := bx_cells (c := []) HS5.out.by_
        obtain ⟨e0, e1, e2, e3, e4, e5, e6, e7, e8⟩ := bx_cells (c := []) HS5.out.br
        have e84 := e8 4 (by omega)
        have e85 := e8 5 (by omega)
        have e86 := e8 6 (by omega)
        clear e8
        have HS6 := Lib.hid (HS5.out.set4 (m1 : Int) hgr)
        have HS7 := Lib.hid (HS6.out.set5 (m1 : Int) hgr)
        go_upto_region 14 with fail
        clear f0 f1 f2 f3 f4 f5 f6 f7 f8 e0 e1 e2 e3 e4 e5 e6 e7 e84 e85 e86
        go_wp2_with (go_at_call 25; refine (rtake_no _ _ HS7.out.rd HT44.out).mono ?_)
        first | rintro e w8 rfl hrd8 hq8 | rintro e w8 ⟨rfl, hrd8, hq8⟩
        have HS8 := Lib.hid (HS7.out.go hq8 hrd8 hgr hgB)
        clear hrd8 hq8
        go_wp2_with (go_at_call 25; refine (rtake_some _ HS8.out.rd HT5.out).mono ?_)
        first | rintro e w9 rfl hrd9 hq9 | rintro e w9 ⟨rfl, hrd9, hq9⟩
        have HS9 := Lib.hid (HS8.out.go hq9 hrd9 hgr hgB)
        clear hrd9 hq9
        obtain ⟨f0, f1, f2, f3, f4, f5, f6, f7, f8⟩ := bx_cells (c := []) HS9.out.by_
        obtain ⟨e0, e1, e2, e3, e4, e5, e6, e7, e8⟩ := bx_cells (c := []) HS9.out.br
        have e84 := e8 4 (by omega)
        have e85 := e8 5 (by omega)
        have e86 := e8 6 (by omega)
        clear e8
        have dm1 : ((m1 : Int) != -1) = true := by rw [bne_iff_ne]; omega
        have dm2 : decide ((m1 : Int) < m1) = false := decide_eq_false (by omega)
        go_upto_region 20 with fail
        clear f0 f1 f2 f3 f4 f5 f6 f7 f8 e0 e1 e2 e3 e4 e5 e6 e7 e84 e85 e86
        cases ht63 : takeM [63] r9 with
        | none =>
          have HT := Lib.hid ht63
          have HRR : Hid (.ok (repR (m1 : Int) (m1 : Int) false X, r9) = R) := Lib.hid (by rw [← HR.out]; simp only [lazyM, ht63])
          clear ht63
          go_wp2_with (go_at_call 25; refine (rtake_no _ _ HS9.out.rd HT.out).mono ?_)
          first | rintro e w10 rfl hrd10 hq10 | rintro e w10 ⟨rfl, hrd10, hq10⟩
          have HS10 := Lib.hid (HS9.out.go hq10 hrd10 hgr hgB)
          clear hrd10 hq10
          have HR := HRR
          obtain ⟨f0, f1, f2, f3, f4, f5, f6, f7, f8⟩ := bx_cells (c := []) HS10.out.by_
          obtain ⟨e0, e1, e2, e3, e4, e5, e6, e7, e8⟩ := bx_cells (c := []) HS10.out.br
          have e84 := e8 4 (by omega)
          have e85 := e8 5 (by omega)
          have e86 := e8 6 (by omega)
          clear e8
          go_wp2
          refine bodyPost_ret (v := .tuple #[.agg #[.int .i64 7, .string ⟨([]).toArray⟩, .bool false, .slice none ([] : List Row).length 0, .int .i64 (m1 : Int), .int .i64 (m1 : Int), .bool false, .slice (some ⟨w.heap.size + 1 + 1, 0, none⟩) [X].length 1], .int .i64 0]) (by simp [results, Try.results31, go_sem, f0, f1, f2, f3, f4, f5, f6, f7]) rfl ?_
          refine ⟨?_, ?_⟩
          · repeat (refine grown_setNew ?_ (by first | (simp; done) | (simp; omega)) _)
            exact HS10.out.gr
          rw [← HR.out]
          refine ⟨rxc 7 [] false none ([] : List Row).length 0 (m1 : Int) (m1 : Int) false (some ⟨w.heap.size + 1 + 1, 0, none⟩) [X].length 1, rfl, RxV.mono (S := TmB w B) (fun b hb _ => hb.1) ?_, ?_⟩
          · iterate 9 (refine RxV.keep (Kept.setLow _ (fun b hb => by have hb : B ≤ b ∧ b ≠ w.heap.size + 1 ∧ b ≠ w.heap.size + 3 := hb; first | omega | (simp; done) | (simp; omega))) ?_)
            exact RxV.close (SlS.none_ _ _ _ _) HS10.out.ks
          · iterate 9 (refine RdT.setHi ?_ (by first | (simp; done) | (simp; omega)) _)
            exact HS10.out.rd
        | some r8 =>
          have HT := Lib.hid ht63
          have HRR : Hid (.ok (repR (m1 : Int) (m1 : Int) true X, r8) = R) := Lib.hid (by rw [← HR.out]; simp only [lazyM, ht63])
          clear ht63
          go_wp2_with (go_at_call 25; refine (rtake_some _ HS9.out.rd HT.out).mono ?_)
          first | rintro e w10 rfl hrd10 hq10 | rintro e w10 ⟨rfl, hrd10, hq10⟩
          have HS10 := Lib.hid (HS9.out.go hq10 hrd10 hgr hgB)
          clear hrd10 hq10
          have HR := HRR
          obtain ⟨f0, f1, f2, f3, f4, f5, f6, f7, f8⟩ := bx_cells (c := []) HS10.out.by_
          obtain ⟨e0, e1, e2, e3, e4, e5, e6, e7, e8⟩ := bx_cells (c := []) HS10.out.br
          have e84 := e8 4 (by omega)
          have e85 := e8 5 (by omega)
          have e86 := e8 6 (by omega)
          clear e8
          go_wp2
          refine bodyPost_ret (v := .tuple #[.agg #[.int .i64 7, .string ⟨([]).toArray⟩, .bool false, .slice none ([] : List Row).length 0, .int .i64 (m1 : Int), .int .i64 (m1 : Int), .bool true, .slice (some ⟨w.heap.size + 1 + 1, 0, none⟩) [X].length 1], .int .i64 0]) (by simp [results, Try.results31, go_sem, f0, f1, f2, f3, f4, f5, f6, f7]) rfl ?_
          refine ⟨?_, ?_⟩
          · repeat (refine grown_setNew ?_ (by first | (simp; done) | (simp; omega)) _)
            exact HS10.out.gr
          rw [← HR.out]
          refine ⟨rxc 7 [] false none ([] : List Row).length 0 (m1 : Int) (m1 : Int) true (some ⟨w.heap.size + 1 + 1, 0, none⟩) [X].length 1, rfl, RxV.mono (S := TmB w B) (fun b hb _ => hb.1) ?_, ?_⟩
          · iterate 9 (refine RxV.keep (Kept.setLow _ (fun b hb => by have hb : B ≤ b ∧ b ≠ w.heap.size + 1 ∧ b ≠ w.heap.size + 3 := hb; first | omega | (simp; done) | (simp; omega))) ?_)
            exact RxV.close (SlS.none_ _ _ _ _) HS10.out.ks
          · iterate 9 (refine RdT.setHi ?_ (by first | (simp; done) | (simp; omega)) _)
            exact HS10.out.rd
    | some r3 =>
      rw [h44] at hR2
      have HT44 := Lib.hid h44
      clear h44
      simp only at hR2
      cases h5 : takeM [125] r3 with
      | some r9 =>
        rw [h5] at hR2
        have HR : Hid (Except.ok (lazyM X m1 (-1) r9) = R) := Lib.hid hR2
        have HT5 := Lib.hid h5
        have hh : hdS r3 = [125] := by rw [takeM_some h5]; rfl
        clear hR2 h5
        go_enter Try.func31, Try.ntmps31
        go_wp2_with (go_at_call 25; refine (rtake_no _ _ HRD.out HT42.out).mono ?_)
        first | rintro e w1 rfl hrd1 hq1 | rintro e w1 ⟨rfl, hrd1, hq1⟩
        rw [← HW0.out] at hq1
        have HS1 := Lib.hid (HS0.out.go hq1 hrd1 hgr hgB)
        clear hrd1 hq1
        go_wp2_with (go_at_call 25; refine (rtake_no _ _ HS1.out.rd HT43.out).mono ?_)
        first | rintro e w2 rfl hrd2 hq2 | rintro e w2 ⟨rfl, hrd2, hq2⟩
        have HS2 := Lib.hid (HS1.out.go hq2 hrd2 hgr hgB)
        clear hrd2 hq2
        go_wp2_with (go_at_call 25; refine (rtake_no _ _ HS2.out.rd HT63.out).mono ?_)
        first | rintro e w3 rfl hrd3 hq3 | rintro e w3 ⟨rfl, hrd3, hq3⟩
        have HS3 := Lib.hid (HS2.out.go hq3 hrd3 hgr hgB)
        clear hrd3 hq3
        go_wp2_with (go_at_call 25; refine (rtake_some _ HS3.out.rd HT123.out).mono ?_)
        first | rintro e w4 rfl hrd4 hq4 | rintro e w4 ⟨rfl, hrd4, hq4⟩
        have HS4 := Lib.hid (HS3.out.go hq4 hrd4 hgr hgB)
        clear hrd4 hq4
        go_wp2_with (go_at_call 43; refine (rnum_ok _ HS4.out.rd HN1.out HK1.out).mono ?_)
        first | rintro e w5 rfl hrd5 hq5 | rintro e w5 ⟨rfl, hrd5, hq5⟩
        have HS5 := Lib.hid (HS4.out.go hq5 hrd5 hgr hgB)
        clear hrd5 hq5
        obtain ⟨f0, f1, f2, f3, f4, f5, f6, f7, f8⟩ := bx_cells (c := []) HS5.out.by_
        obtain ⟨e0, e1, e2, e3, e4, e5, e6, e7, e8⟩ := bx_cells (c := []) HS5.out.br
        have e84 := e8 4 (by omega)
        have e85 := e8 5 (by omega)
        have e86 := e8 6 (by omega)
        clear e8
        have HS6 := Lib.hid (HS5.out.set4 (m1 : Int) hgr)
        have HS7 := Lib.hid (HS6.out.set5 (m1 : Int) hgr)
        go_upto_region 14 with fail
        clear f0 f1 f2 f3 f4 f5 f6 f7 f8 e0 e1 e2 e3 e4 e5 e6 e7 e84 e85 e86
        go_wp2_with (go_at_call 25; refine (rtake_some _ HS7.out.rd HT44.out).mono ?_)
        first | rintro e w8 rfl hrd8 hq8 | rintro e w8 ⟨rfl, hrd8, hq8⟩
        have HS8 := Lib.hid (HS7.out.go hq8 hrd8 hgr hgB)
        clear hrd8 hq8
        obtain ⟨f0, f1, f2, f3, f4, f5, f6, f7, f8⟩ := bx_cells (c := []) HS8.out.by_
        obtain ⟨e0, e1, e2, e3, e4, e5, e6, e7, e8⟩ := bx_cells (c := []) HS8.out.br
        have e84 := e8 4 (by omega)
        have e85 := e8 5 (by omega)
        have e86 := e8 6 (by omega)
        clear e8
        have HS9 := Lib.hid (HS8.out.set5 (-1) hgr)
        go_wp2_with (go_at_call 22; refine (rsee_any _ HS9.out.rd).mono ?_)
        clear f0 f1 f2 f3 f4 f5 f6 f7 f8 e0 e1 e2 e3 e4 e5 e6 e7 e84 e85 e86
        first | rintro e w10 rfl hst | rintro e w10 ⟨rfl, hst⟩
        have HS10 := Lib.hid (HS9.out.go (hst.grown (some g)) (hst.rd HS9.out.rd) hgr hgB)
        rw [hh]
        clear hst hh
        go_wp2_with (go_at_call 25; refine (rtake_some _ HS10.out.rd HT5.out).mono ?_)
        first | rintro e w11 rfl hrd11 hq11 | rintro e w11 ⟨rfl, hrd11, hq11⟩
        have HS11 := Lib.hid (HS10.out.go hq11 hrd11 hgr hgB)
        clear hrd11 hq11
        obtain ⟨f0, f1, f2, f3, f4, f5, f6, f7, f8⟩ := bx_cells (c := []) HS11.out.by_
        obtain ⟨e0, e1, e2, e3, e4, e5, e6, e7, e8⟩ := bx_cells (c := []) HS11.out.br
        have e84 := e8 4 (by omega)
        have e85 := e8 5 (by omega)
        have e86 := e8 6 (by omega)
        clear e8
        go_upto_region 20 with fail
        clear f0 f1 f2 f3 f4 f5 f6 f7 f8 e0 e1 e2 e3 e4 e5 e6 e7 e84 e85 e86
        cases ht63 : takeM [63] r9 with
        | none =>
          have HT := Lib.hid ht63
          have HRR : Hid (.ok (repR (m1 : Int) (-1) false X, r9) = R) := Lib.hid (by rw [← HR.out]; simp only [lazyM, ht63])
          clear ht63
          go_wp2_with (go_at_call 25; refine (rtake_no _ _ HS11.out.rd HT.out).mono ?_)
          first | rintro e w12 rfl hrd12 hq12 | rintro e w12 ⟨rfl, hrd12, hq12⟩
          have HS12 := Lib.hid (HS11.out.go hq12 hrd12 hgr hgB)
          clear hrd12 hq12
          have HR := HRR
          obtain ⟨f0, f1, f2, f3, f4, f5, f6, f7, f8⟩ := bx_cells (c := []) HS12.out.by_
          obtain ⟨e0, e1, e2, e3, e4, e5, e6, e7, e8⟩ := bx_cells (c := []) HS12.out.br
          have e84 := e8 4 (by omega)
          have e85 := e8 5 (by omega)
          have e86 := e8 6 (by omega)
          clear e8
          go_wp2
          refine bodyPost_ret (v := .tuple #[.agg #[.int .i64 7, .string ⟨([]).toArray⟩, .bool false, .slice none ([] : List Row).length 0, .int .i64 (m1 : Int), .int .i64 (-1), .bool false, .slice (some ⟨w.heap.size + 1 + 1, 0, none⟩) [X].length 1], .int .i64 0]) (by simp [results, Try.results31, go_sem, f0, f1, f2, f3, f4, f5, f6, f7]) rfl ?_
          refine ⟨?_, ?_⟩
          · repeat (refine grown_setNew ?_ (by first | (simp; done) | (simp; omega)) _)
            exact HS12.out.gr
          rw [← HR.out]
          refine ⟨rxc 7 [] false none ([] : List Row).length 0 (m1 : Int) (-1) false (some ⟨w.heap.size + 1 + 1, 0, none⟩) [X].length 1, rfl, RxV.mono (S := TmB w B) (fun b hb _ => hb.1) ?_, ?_⟩
          · iterate 9 (refine RxV.keep (Kept.setLow _ (fun b hb => by have hb : B ≤ b ∧ b ≠ w.heap.size + 1 ∧ b ≠ w.heap.size + 3 := hb; first | omega | (simp; done) | (simp; omega))) ?_)
            exact RxV.close (SlS.none_ _ _ _ _) HS12.out.ks
          · iterate 9 (refine RdT.setHi ?_ (by first | (simp; done) | (simp; omega)) _)
            exact HS12.out.rd
        | some r8 =>
          have HT := Lib.hid ht63
          have HRR : Hid (.ok (repR (m1 : Int) (-1) true X, r8) = R) := Lib.hid (by rw [← HR.out]; simp only [lazyM, ht63])
          clear ht63
          go_wp2_with (go_at_call 25; refine (rtake_some _ HS11.out.rd HT.out).mono ?_)
          first | rintro e w12 rfl hrd12 hq12 | rintro e w12 ⟨rfl, hrd12, hq12⟩
          have HS12 := Lib.hid (HS11.out.go hq12 hrd12 hgr hgB)
          clear hrd12 hq12
          have HR := HRR
          obtain ⟨f0, f1, f2, f3, f4, f5, f6, f7, f8⟩ := bx_cells (c := []) HS12.out.by_
          obtain ⟨e0, e1, e2, e3, e4, e5, e6, e7, e8⟩ := bx_cells (c := []) HS12.out.br
          have e84 := e8 4 (by omega)
          have e85 := e8 5 (by omega)
          have e86 := e8 6 (by omega)
          clear e8
          go_wp2
          refine bodyPost_ret (v := .tuple #[.agg #[.int .i64 7, .string ⟨([]).toArray⟩, .bool false, .slice none ([] : List Row).length 0, .int .i64 (m1 : Int), .int .i64 (-1), .bool true, .slice (some ⟨w.heap.size + 1 + 1, 0, none⟩) [X].length 1], .int .i64 0]) (by simp [results, Try.results31, go_sem, f0, f1, f2, f3, f4, f5, f6, f7]) rfl ?_
          refine ⟨?_, ?_⟩
          · repeat (refine grown_setNew ?_ (by first | (simp; done) | (simp; omega)) _)
            exact HS12.out.gr
          rw [← HR.out]
          refine ⟨rxc 7 [] false none ([] : List Row).length 0 (m1 : Int) (-1) true (some ⟨w.heap.size + 1 + 1, 0, none⟩) [X].length 1, rfl, RxV.mono (S := TmB w B) (fun b hb _ => hb.1) ?_, ?_⟩
          · iterate 9 (refine RxV.keep (Kept.setLow _ (fun b hb => by have hb : B ≤ b ∧ b ≠ w.heap.size + 1 ∧ b ≠ w.heap.size + 3 := hb; first | omega | (simp; done) | (simp; omega))) ?_)
            exact RxV.close (SlS.none_ _ _ _ _) HS12.out.ks
          · iterate 9 (refine RdT.setHi ?_ (by first | (simp; done) | (simp; omega)) _)
            exact HS12.out.rd
      | none =>
        rw [h5] at hR2
        simp only at hR2
        have hh1 : (hdS r3 == [125]) = false ∧ (hdS r3 != [125]) = true := takeM_none_hd h5 (by simp)
        obtain ⟨h3, hh3⟩ : ∃ h3, hdS r3 = h3 := ⟨_, rfl⟩
        have HH3 := Lib.hid hh3
        rw [hh3] at hh1
        obtain ⟨hh1, hh2⟩ := hh1
        obtain ⟨⟨n2, m2, r4⟩, hN2⟩ : ∃ q, numR 0 0 r3 = q := ⟨_, rfl⟩
        have HN2 := Lib.hid hN2
        rw [hN2] at hR2
        simp only at hR2
        clear h5 hN2 hh3
        by_cases hk2 : 0 < n2 ∧ m2 ≤ 255
        case neg =>
          rw [if_neg hk2] at hR2
          have HR := Lib.hid hR2
          have HK2 := Lib.hid hk2
          clear hR2 hk2
          go_enter Try.func31, Try.ntmps31
          go_wp2_with (go_at_call 25; refine (rtake_no _ _ HRD.out HT42.out).mono ?_)
          first | rintro e w1 rfl hrd1 hq1 | rintro e w1 ⟨rfl, hrd1, hq1⟩
          rw [← HW0.out] at hq1
          have HS1 := Lib.hid (HS0.out.go hq1 hrd1 hgr hgB)
          clear hrd1 hq1
          go_wp2_with (go_at_call 25; refine (rtake_no _ _ HS1.out.rd HT43.out).mono ?_)
          first | rintro e w2 rfl hrd2 hq2 | rintro e w2 ⟨rfl, hrd2, hq2⟩
          have HS2 := Lib.hid (HS1.out.go hq2 hrd2 hgr hgB)
          clear hrd2 hq2
          go_wp2_with (go_at_call 25; refine (rtake_no _ _ HS2.out.rd HT63.out).mono ?_)
          first | rintro e w3 rfl hrd3 hq3 | rintro e w3 ⟨rfl, hrd3, hq3⟩
          have HS3 := Lib.hid (HS2.out.go hq3 hrd3 hgr hgB)
          clear hrd3 hq3
          go_wp2_with (go_at_call 25; refine (rtake_some _ HS3.out.rd HT123.out).mono ?_)
          first | rintro e w4 rfl hrd4 hq4 | rintro e w4 ⟨rfl, hrd4, hq4⟩
          have HS4 := Lib.hid (HS3.out.go hq4 hrd4 hgr hgB)
          clear hrd4 hq4
          go_wp2_with (go_at_call 43; refine (rnum_ok _ HS4.out.rd HN1.out HK1.out).mono ?_)
          first | rintro e w5 rfl hrd5 hq5 | rintro e w5 ⟨rfl, hrd5, hq5⟩
          have HS5 := Lib.hid (HS4.out.go hq5 hrd5 hgr hgB)
          clear hrd5 hq5
          obtain ⟨f0, f1, f2, f3, f4, f5, f6, f7, f8⟩ := bx_cells (c := []) HS5.out.by_
          obtain ⟨e0, e1, e2, e3, e4, e5, e6, e7, e8⟩ := bx_cells (c := []) HS5.out.br
          have e84 := e8 4 (by omega)
          have e85 := e8 5 (by omega)
          have e86 := e8 6 (by omega)
          clear e8
          have HS6 := Lib.hid (HS5.out.set4 (m1 : Int) hgr)
          have HS7 := Lib.hid (HS6.out.set5 (m1 : Int) hgr)
          go_upto_region 14 with fail
          clear f0 f1 f2 f3 f4 f5 f6 f7 f8 e0 e1 e2 e3 e4 e5 e6 e7 e84 e85 e86
          go_wp2_with (go_at_call 25; refine (rtake_some _ HS7.out.rd HT44.out).mono ?_)
          first | rintro e w8 rfl hrd8 hq8 | rintro e w8 ⟨rfl, hrd8, hq8⟩
          have HS8 := Lib.hid (HS7.out.go hq8 hrd8 hgr hgB)
          clear hrd8 hq8
          obtain ⟨f0, f1, f2, f3, f4, f5, f6, f7, f8⟩ := bx_cells (c := []) HS8.out.by_
          obtain ⟨e0, e1, e2, e3, e4, e5, e6, e7, e8⟩ := bx_cells (c := []) HS8.out.br
          have e84 := e8 4 (by omega)
          have e85 := e8 5 (by omega)
          have e86 := e8 6 (by omega)
          clear e8
          have HS9 := Lib.hid (HS8.out.set5 (-1) hgr)
          go_wp2_with (go_at_call 22; refine (rsee_any _ HS9.out.rd).mono ?_)
          clear f0 f1 f2 f3 f4 f5 f6 f7 f8 e0 e1 e2 e3 e4 e5 e6 e7 e84 e85 e86
          first | rintro e w10 rfl hst | rintro e w10 ⟨rfl, hst⟩
          have HS10 := Lib.hid (HS9.out.go (hst.grown (some g)) (hst.rd HS9.out.rd) hgr hgB)
          rw [HH3.out]
          clear hst
          go_wp2_with (go_at_call 43; refine (rnum_no _ HS10.out.rd HN2.out HK2.out).mono ?_)
          first | rintro e w11 rfl hrd11 hq11 | rintro e w11 ⟨rfl, hrd11, hq11⟩
          have HS11 := Lib.hid (HS10.out.go hq11 hrd11 hgr hgB)
          clear hrd11 hq11
          obtain ⟨f0, f1, f2, f3, f4, f5, f6, f7, f8⟩ := bx_cells (c := []) HS11.out.by_
          obtain ⟨e0, e1, e2, e3, e4, e5, e6, e7, e8⟩ := bx_cells (c := []) HS11.out.br
          have e84 := e8 4 (by omega)
          have e85 := e8 5 (by omega)
          have e86 := e8 6 (by omega)
          clear e8
          have HS12 := Lib.hid (HS11.out.set5 (m2 : Int) hgr)
          go_upto_region 18 with fail
          clear f0 f1 f2 f3 f4 f5 f6 f7 f8 e0 e1 e2 e3 e4 e5 e6 e7 e84 e85 e86
          obtain ⟨f0, f1, f2, f3, f4, f5, f6, f7, f8⟩ := bx_cells (c := []) HS12.out.by_
          obtain ⟨e0, e1, e2, e3, e4, e5, e6, e7, e8⟩ := bx_cells (c := []) HS12.out.br
          have e84 := e8 4 (by omega)
          have e85 := e8 5 (by omega)
          have e86 := e8 6 (by omega)
          clear e8
          go_wp2
          refine bodyPost_ret (v := .tuple #[.agg #[.int .i64 0, .string ⟨([]).toArray⟩, .bool false, .slice none 0 0, .int .i64 0, .int .i64 0, .bool false, .slice none 0 0], .int .i64 10]) (by simp [results, Try.results31, go_sem, f0, f1, f2, f3, f4, f5, f6, f7]) rfl ?_
          refine ⟨?_, ?_⟩
          · iterate 8 (refine grown_setNew ?_ (by first | (simp; done) | (simp; omega)) _)
            exact HS12.out.gr
          · rw [← HR.out]; rfl
        rw [if_pos hk2] at hR2
        have HK2 := Lib.hid hk2
        have hm2 := hk2.2
        clear hk2
        cases h6 : takeM [125] r4 with
        | none =>
          rw [h6] at hR2
          have HR := Lib.hid hR2
          have HT6 := Lib.hid h6
          clear hR2 h6
          go_enter Try.func31, Try.ntmps31
          go_wp2_with (go_at_call 25; refine (rtake_no _ _ HRD.out HT42.out).mono ?_)
          first | rintro e w1 rfl hrd1 hq1 | rintro e w1 ⟨rfl, hrd1, hq1⟩
          rw [← HW0.out] at hq1
          have HS1 := Lib.hid (HS0.out.go hq1 hrd1 hgr hgB)
          clear hrd1 hq1
          go_wp2_with (go_at_call 25; refine (rtake_no _ _ HS1.out.rd HT43.out).mono ?_)
          first | rintro e w2 rfl hrd2 hq2 | rintro e w2 ⟨rfl, hrd2, hq2⟩
          have HS2 := Lib.hid (HS1.out.go hq2 hrd2 hgr hgB)
          clear hrd2 hq2
          go_wp2_with (go_at_call 25; refine (rtake_no _ _ HS2.out.rd HT63.out).mono ?_)
          first | rintro e w3 rfl hrd3 hq3 | rintro e w3 ⟨rfl, hrd3, hq3⟩
          have HS3 := Lib.hid (HS2.out.go hq3 hrd3 hgr hgB)
          clear hrd3 hq3
          go_wp2_with (go_at_call 25; refine (rtake_some _ HS3.out.rd HT123.out).mono ?_)
          first | rintro e w4 rfl hrd4 hq4 | rintro e w4 ⟨rfl, hrd4, hq4⟩
          have HS4 := Lib.hid (HS3.out.go hq4 hrd4 hgr hgB)
          clear hrd4 hq4
          go_wp2_with (go_at_call 43; refine (rnum_ok _ HS4.out.rd HN1.out HK1.out).mono ?_)
          first | rintro e w5 rfl hrd5 hq5 | rintro e w5 ⟨rfl, hrd5, hq5⟩
          have HS5 := Lib.hid (HS4.out.go hq5 hrd5 hgr hgB)
          clear hrd5 hq5
          obtain ⟨f0, f1, f2, f3, f4, f5, f6, f7, f8⟩ := bx_cells (c := []) HS5.out.by_
          obtain ⟨e0, e1, e2, e3, e4, e5, e6, e7, e8⟩ := bx_cells (c := []) HS5.out.br
          have e84 := e8 4 (by omega)
          have e85 := e8 5 (by omega)
          have e86 := e8 6 (by omega)
          clear e8
          have HS6 := Lib.hid (HS5.out.set4 (m1 : Int) hgr)
          have HS7 := Lib.hid (HS6.out.set5 (m1 : Int) hgr)
          go_upto_region 14 with fail
          clear f0 f1 f2 f3 f4 f5 f6 f7 f8 e0 e1 e2 e3 e4 e5 e6 e7 e84 e85 e86
          go_wp2_with (go_at_call 25; refine (rtake_some _ HS7.out.rd HT44.out).mono ?_)
          first | rintro e w8 rfl hrd8 hq8 | rintro e w8 ⟨rfl, hrd8, hq8⟩
          have HS8 := Lib.hid (HS7.out.go hq8 hrd8 hgr hgB)
          clear hrd8 hq8
          obtain ⟨f0, f1, f2, f3, f4, f5, f6, f7, f8⟩ := bx_cells (c := []) HS8.out.by_
          obtain ⟨e0, e1, e2, e3, e4, e5, e6, e7, e8⟩ := bx_cells (c := []) HS8.out.br
          have e84 := e8 4 (by omega)
          have e85 := e8 5 (by omega)
          have e86 := e8 6 (by omega)
          clear e8
          have HS9 := Lib.hid (HS8.out.set5 (-1) hgr)
          go_wp2_with (go_at_call 22; refine (rsee_any _ HS9.out.rd).mono ?_)
          clear f0 f1 f2 f3 f4 f5 f6 f7 f8 e0 e1 e2 e3 e4 e5 e6 e7 e84 e85 e86
          first | rintro e w10 rfl hst | rintro e w10 ⟨rfl, hst⟩
          have HS10 := Lib.hid (HS9.out.go (hst.grown (some g)) (hst.rd HS9.out.rd) hgr hgB)
          rw [HH3.out]
          clear hst
          go_wp2_with (go_at_call 43; refine (rnum_ok _ HS10.out.rd HN2.out HK2.out).mono ?_)
          first | rintro e w11 rfl hrd11 hq11 | rintro e w11 ⟨rfl, hrd11, hq11⟩
          have HS11 := Lib.hid (HS10.out.go hq11 hrd11 hgr hgB)
          clear hrd11 hq11
          obtain ⟨f0, f1, f2, f3, f4, f5, f6, f7, f8⟩ := bx_cells (c := []) HS11.out.by_
          obtain ⟨e0, e1, e2, e3, e4, e5, e6, e7, e8⟩ := bx_cells (c := []) HS11.out.br
          have e84 := e8 4 (by omega)
          have e85 := e8 5 (by omega)
          have e86 := e8 6 (by omega)
          clear e8
          have HS12 := Lib.hid (HS11.out.set5 (m2 : Int) hgr)
          go_wp2_with (go_at_call 25; refine (rtake_no _ _ HS12.out.rd HT6.out).mono ?_)
          clear f0 f1 f2 f3 f4 f5 f6 f7 f8 e0 e1 e2 e3 e4 e5 e6 e7 e84 e85 e86
          first | rintro e w13 rfl hrd13 hq13 | rintro e w13 ⟨rfl, hrd13, hq13⟩
          have HS13 := Lib.hid (HS12.out.go hq13 hrd13 hgr hgB)
          clear hrd13 hq13
          obtain ⟨f0, f1, f2, f3, f4, f5, f6, f7, f8⟩ := bx_cells (c := []) HS13.out.by_
          obtain ⟨e0, e1, e2, e3, e4, e5, e6, e7, e8⟩ := bx_cells (c := []) HS13.out.br
          have e84 := e8 4 (by omega)
          have e85 := e8 5 (by omega)
          have e86 := e8 6 (by omega)
          clear e8
          go_wp2
          refine bodyPost_ret (v := .tuple #[.agg #[.int .i64 0, .string ⟨([]).toArray⟩, .bool false, .slice none 0 0, .int .i64 0, .int .i64 0, .bool false, .slice none 0 0], .int .i64 10]) (by simp [results, Try.results31, go_sem, f0, f1, f2, f3, f4, f5, f6, f7]) rfl ?_
          refine ⟨?_, ?_⟩
          · iterate 8 (refine grown_setNew ?_ (by first | (simp; done) | (simp; omega)) _)
            exact HS13.out.gr
          · rw [← HR.out]; rfl
        | some r9 =>
          rw [h6] at hR2
          simp only at hR2
          have HT6 := Lib.hid h6
          clear h6
          by_cases hlt : m2 < m1
          · rw [if_pos hlt] at hR2
            have HR := Lib.hid hR2
            have dm1 : ((m2 : Int) != -1) = true := by rw [bne_iff_ne]; omega
            have dm2 : decide ((m2 : Int) < m1) = true := decide_eq_true (by omega)
            clear hR2
            go_enter Try.func31, Try.ntmps31
            go_wp2_with (go_at_call 25; refine (rtake_no _ _ HRD.out HT42.out).mono ?_)
            first | rintro e w1 rfl hrd1 hq1 | rintro e w1 ⟨rfl, hrd1, hq1⟩
            rw [← HW0.out] at hq1
            have HS1 := Lib.hid (HS0.out.go hq1 hrd1 hgr hgB)
            clear hrd1 hq1
            go_wp2_with (go_at_call 25; refine (rtake_no _ _ HS1.out.rd HT43.out).mono ?_)
            first | rintro e w2 rfl hrd2 hq2 | rintro e w2 ⟨rfl, hrd2, hq2⟩
            have HS2 := Lib.hid (HS1.out.go hq2 hrd2 hgr hgB)
            clear hrd2 hq2
            go_wp2_with (go_at_call 25; refine (rtake_no _ _ HS2.out.rd HT63.out).mono ?_)
            first | rintro e w3 rfl hrd3 hq3 | rintro e w3 ⟨rfl, hrd3, hq3⟩
            have HS3 := Lib.hid (HS2.out.go hq3 hrd3 hgr hgB)
            clear hrd3 hq3
            go_wp2_with (go_at_call 25; refine (rtake_some _ HS3.out.rd HT123.out).mono ?_)
            first | rintro e w4 rfl hrd4 hq4 | rintro e w4 ⟨rfl, hrd4, hq4⟩
            have HS4 := Lib.hid (HS3.out.go hq4 hrd4 hgr hgB)
            clear hrd4 hq4
            go_wp2_with (go_at_call 43; refine (rnum_ok _ HS4.out.rd HN1.out HK1.out).mono ?_)
            first | rintro e w5 rfl hrd5 hq5 | rintro e w5 ⟨rfl, hrd5, hq5⟩
            have HS5 := Lib.hid (HS4.out.go hq5 hrd5 hgr hgB)
            clear hrd5 hq5
            obtain ⟨f0, f1, f2, f3, f4, f5, f6, f7, f8⟩ := bx_cells (c := []) HS5.out.by_
            obtain ⟨e0, e1, e2, e3, e4, e5, e6, e7, e8⟩ := bx_cells (c := []) HS5.out.br
            have e84 := e8 4 (by omega)
            have e85 := e8 5 (by omega)
            have e86 := e8 6 (by omega)
            clear e8
            have HS6 := Lib.hid (HS5.out.set4 (m1 : Int) hgr)
            have HS7 := Lib.hid (HS6.out.set5 (m1 : Int) hgr)
            go_upto_region 14 with fail
            clear f0 f1 f2 f3 f4 f5 f6 f7 f8 e0 e1 e2 e3 e4 e5 e6 e7 e84 e85 e86
            go_wp2_with (go_at_call 25; refine (rtake_some _ HS7.out.rd HT44.out).mono ?_)
            first | rintro e w8 rfl hrd8 hq8 | rintro e w8 ⟨rfl, hrd8, hq8⟩
            have HS8 := Lib.hid (HS7.out.go hq8 hrd8 hgr hgB)
            clear hrd8 hq8
            obtain ⟨f0, f1, f2, f3, f4, f5, f6, f7, f8⟩ := bx_cells (c := []) HS8.out.by_
            obtain ⟨e0, e1, e2, e3, e4, e5, e6, e7, e8⟩ := bx_cells (c := []) HS8.out.br
            have e84 := e8 4 (by omega)
            have e85 := e8 5 (by omega)
            have e86 := e8 6 (by omega)
            clear e8
            have HS9 := Lib.hid (HS8.out.set5 (-1) hgr)
            go_wp2_with (go_at_call 22; refine (rsee_any _ HS9.out.rd).mono ?_)
            clear f0 f1 f2 f3 f4 f5 f6 f7 f8 e0 e1 e2 e3 e4 e5 e6 e7 e84 e85 e86
            first | rintro e w10 rfl hst | rintro e w10 ⟨rfl, hst⟩
            have HS10 := Lib.hid (HS9.out.go (hst.grown (some g)) (hst.rd HS9.out.rd) hgr hgB)
            rw [HH3.out]
            clear hst
            go_wp2_with (go_at_call 43; refine (rnum_ok _ HS10.out.rd HN2.out HK2.out).mono ?_)
            first | rintro e w11 rfl hrd11 hq11 | rintro e w11 ⟨rfl, hrd11, hq11⟩
            have HS11 := Lib.hid (HS10.out.go hq11 hrd11 hgr hgB)
            clear hrd11 hq11
            obtain ⟨f0, f1, f2, f3, f4, f5, f6, f7, f8⟩ := bx_cells (c := []) HS11.out.by_
            obtain ⟨e0, e1, e2, e3, e4, e5, e6, e7, e8⟩ := bx_cells (c := []) HS11.out.br
            have e84 := e8 4 (by omega)
            have e85 := e8 5 (by omega)
            have e86 := e8 6 (by omega)
            clear e8
            have HS12 := Lib.hid (HS11.out.set5 (m2 : Int) hgr)
            go_wp2_with (go_at_call 25; refine (rtake_some _ HS12.out.rd HT6.out).mono ?_)
            clear f0 f1 f2 f3 f4 f5 f6 f7 f8 e0 e1 e2 e3 e4 e5 e6 e7 e84 e85 e86
            first | rintro e w13 rfl hrd13 hq13 | rintro e w13 ⟨rfl, hrd13, hq13⟩
            have HS13 := Lib.hid (HS12.out.go hq13 hrd13 hgr hgB)
            clear hrd13 hq13
            obtain ⟨f0, f1, f2, f3, f4, f5, f6, f7, f8⟩ := bx_cells (c := []) HS13.out.by_
            obtain ⟨e0, e1, e2, e3, e4, e5, e6, e7, e8⟩ := bx_cells (c := []) HS13.out.br
            have e84 := e8 4 (by omega)
            have e85 := e8 5 (by omega)
            have e86 := e8 6 (by omega)
            clear e8
            go_wp2
            refine bodyPost_ret (v := .tuple #[.agg #[.int .i64 0, .string ⟨([]).toArray⟩, .bool false, .slice none 0 0, .int .i64 0, .int .i64 0, .bool false, .slice none 0 0], .int .i64 10]) (by simp [results, Try.results31, go_sem, f0, f1, f2, f3, f4, f5, f6, f7]) rfl ?_
            refine ⟨?_, ?_⟩
            · iterate 8 (refine grown_setNew ?_ (by first | (simp; done) | (simp; omega)) _)
              exact HS13.out.gr
            · rw [← HR.out]; rfl
          · rw [if_neg hlt] at hR2
            have HR : Hid (Except.ok (lazyM X m1 m2 r9) = R) := Lib.hid hR2
            have dm1 : ((m2 : Int) != -1) = true := by rw [bne_iff_ne]; omega
            have dm2 : decide ((m2 : Int) < m1) = false := decide_eq_false (by omega)
            clear hR2
            go_enter Try.func31, Try.ntmps31
            go_wp2_with (go_at_call 25; refine (rtake_no _ _ HRD.out HT42.out).mono ?_)
            first | rintro e w1 rfl hrd1 hq1 | rintro e w1 ⟨rfl, hrd1, hq1⟩
            rw [← HW0.out] at hq1
            have HS1 := Lib.hid (HS0.out.go hq1 hrd1 hgr hgB)
            clear hrd1 hq1
            go_wp2_with (go_at_call 25; refine (rtake_no _ _ HS1.out.rd HT43.out).mono ?_)
            first | rintro e w2 rfl hrd2 hq2 | rintro e w2 ⟨rfl, hrd2, hq2⟩
            have HS2 := Lib.hid (HS1.out.go hq2 hrd2 hgr hgB)
            clear hrd2 hq2
            go_wp2_with (go_at_call 25; refine (rtake_no _ _ HS2.out.rd HT63.out).mono ?_)
            first | rintro e w3 rfl hrd3 hq3 | rintro e w3 ⟨rfl, hrd3, hq3⟩
            have HS3 := Lib.hid (HS2.out.go hq3 hrd3 hgr hgB)
            clear hrd3 hq3
            go_wp2_with (go_at_call 25; refine (rtake_some _ HS3.out.rd HT123.out).mono ?_)
            first | rintro e w4 rfl hrd4 hq4 | rintro e w4 ⟨rfl, hrd4, hq4⟩
            have HS4 := Lib.hid (HS3.out.go hq4 hrd4 hgr hgB)
            clear hrd4 hq4
            go_wp2_with (go_at_call 43; refine (rnum_ok _ HS4.out.rd HN1.out HK1.out).mono ?_)
            first | rintro e w5 rfl hrd5 hq5 | rintro e w5 ⟨rfl, hrd5, hq5⟩
            have HS5 := Lib.hid (HS4.out.go hq5 hrd5 hgr hgB)
            clear hrd5 hq5
            obtain ⟨f0, f1, f2, f3, f4, f5, f6, f7, f8⟩ := bx_cells (c := []) HS5.out.by_
            obtain ⟨e0, e1, e2, e3, e4, e5, e6, e7, e8⟩ := bx_cells (c := []) HS5.out.br
            have e84 := e8 4 (by omega)
            have e85 := e8 5 (by omega)
            have e86 := e8 6 (by omega)
            clear e8
            have HS6 := Lib.hid (HS5.out.set4 (m1 : Int) hgr)
            have HS7 := Lib.hid (HS6.out.set5 (m1 : Int) hgr)
            go_upto_region 14 with fail
            clear f0 f1 f2 f3 f4 f5 f6 f7 f8 e0 e1 e2 e3 e4 e5 e6 e7 e84 e85 e86
            go_wp2_with (go_at_call 25; refine (rtake_some _ HS7.out.rd HT44.out).mono ?_)
            first | rintro e w8 rfl hrd8 hq8 | rintro e w8 ⟨rfl, hrd8, hq8⟩
            have HS8 := Lib.hid (HS7.out.go hq8 hrd8 hgr hgB)
            clear hrd8 hq8
            obtain ⟨f0, f1, f2, f3, f4, f5, f6, f7, f8⟩ := bx_cells (c := []) HS8.out.by_
            obtain ⟨e0, e1, e2, e3, e4, e5, e6, e7, e8⟩ := bx_cells (c := []) HS8.out.br
            have e84 := e8 4 (by omega)
            have e85 := e8 5 (by omega)
            have e86 := e8 6 (by omega)
            clear e8
            have HS9 := Lib.hid (HS8.out.set5 (-1) hgr)
            go_wp2_with (go_at_call 22; refine (rsee_any _ HS9.out.rd).mono ?_)
            clear f0 f1 f2 f3 f4 f5 f6 f7 f8 e0 e1 e2 e3 e4 e5 e6 e7 e84 e85 e86
            first | rintro e w10 rfl hst | rintro e w10 ⟨rfl, hst⟩
            have HS10 := Lib.hid (HS9.out.go (hst.grown (some g)) (hst.rd HS9.out.rd) hgr hgB)
            rw [HH3.out]
            clear hst
            go_wp2_with (go_at_call 43; refine (rnum_ok _ HS10.out.rd HN2.out HK2.out).mono ?_)
            first | rintro e w11 rfl hrd11 hq11 | rintro e w11 ⟨rfl, hrd11, hq11⟩
            have HS11 := Lib.hid (HS10.out.go hq11 hrd11 hgr hgB)
            clear hrd11 hq11
            obtain ⟨f0, f1, f2, f3, f4, f5, f6, f7, f8⟩ := bx_cells (c := []) HS11.out.by_
            obtain ⟨e0, e1, e2, e3, e4, e5, e6, e7, e8⟩ := bx_cells (c := []) HS11.out.br
            have e84 := e8 4 (by omega)
            have e85 := e8 5 (by omega)
            have e86 := e8 6 (by omega)
            clear e8
            have HS12 := Lib.hid (HS11.out.set5 (m2 : Int) hgr)
            go_wp2_with (go_at_call 25; refine (rtake_some _ HS12.out.rd HT6.out).mono ?_)
            clear f0 f1 f2 f3 f4 f5 f6 f7 f8 e0 e1 e2 e3 e4 e5 e6 e7 e84 e85 e86
            first | rintro e w13 rfl hrd13 hq13 | rintro e w13 ⟨rfl, hrd13, hq13⟩
            have HS13 := Lib.hid (HS12.out.go hq13 hrd13 hgr hgB)
            clear hrd13 hq13
            obtain ⟨f0, f1, f2, f3, f4, f5, f6, f7, f8⟩ := bx_cells (c := []) HS13.out.by_
            obtain ⟨e0, e1, e2, e3, e4, e5, e6, e7, e8⟩ := bx_cells (c := []) HS13.out.br
            have e84 := e8 4 (by omega)
            have e85 := e8 5 (by omega)
            have e86 := e8 6 (by omega)
            clear e8
            go_upto_region 20 with fail
            clear f0 f1 f2 f3 f4 f5 f6 f7 f8 e0 e1 e2 e3 e4 e5 e6 e7 e84 e85 e86
            cases ht63 : takeM [63] r9 with
            | none =>
              have HT := Lib.hid ht63
              have HRR : Hid (.ok (repR (m1 : Int) (m2 : Int) false X, r9) = R) := Lib.hid (by rw [← HR.out]; simp only [lazyM, ht63])
              clear ht63
              go_wp2_with (go_at_call 25; refine (rtake_no _ _ HS13.out.rd HT.out).mono ?_)
              first | rintro e w14 rfl hrd14 hq14 | rintro e w14 ⟨rfl, hrd14, hq14⟩
              have HS14 := Lib.hid (HS13.out.go hq14 hrd14 hgr hgB)
              clear hrd14 hq14
              have HR := HRR
              obtain ⟨f0, f1, f2, f3, f4, f5, f6, f7, f8⟩ := bx_cells (c := []) HS14.out.by_
              obtain ⟨e0, e1, e2, e3, e4, e5, e6, e7, e8⟩ := bx_cells (c := []) HS14.out.br
              have e84 := e8 4 (by omega)
              have e85 := e8 5 (by omega)
              have e86 := e8 6 (by omega)
              clear e8
              go_wp2
              refine bodyPost_ret (v := .tuple #[.agg #[.int .i64 7, .string ⟨([]).toArray⟩, .bool false, .slice none ([] : List Row).length 0, .int .i64 (m1 : Int), .int .i64 (m2 : Int), .bool false, .slice (some ⟨w.heap.size + 1 + 1, 0, none⟩) [X].length 1], .int .i64 0]) (by simp [results, Try.results31, go_sem, f0, f1, f2, f3, f4, f5, f6, f7]) rfl ?_
              refine ⟨?_, ?_⟩
              · repeat (refine grown_setNew ?_ (by first | (simp; done) | (simp; omega)) _)
                exact HS14.out.gr
              rw [← HR.out]
              refine ⟨rxc 7 [] false none ([] : List Row).length 0 (m1 : Int) (m2 : Int) false (some ⟨w.heap.size + 1 + 1, 0, none⟩) [X].length 1, rfl, RxV.mono (S := TmB w B) (fun b hb _ => hb.1) ?_, ?_⟩
              · iterate 9 (refine RxV.keep (Kept.setLow _ (fun b hb => by have hb : B ≤ b ∧ b ≠ w.heap.size + 1 ∧ b ≠ w.heap.size + 3 := hb; first | omega | (simp; done) | (simp; omega))) ?_)
                exact RxV.close (SlS.none_ _ _ _ _) HS14.out.ks
              · iterate 9 (refine RdT.setHi ?_ (by first | (simp; done) | (simp; omega)) _)
                exact HS14.out.rd
            | some r8 =>
              have HT := Lib.hid ht63
              have HRR : Hid (.ok (repR (m1 : Int) (m2 : Int) true X, r8) = R) := Lib.hid (by rw [← HR.out]; simp only [lazyM, ht63])
              clear ht63
              go_wp2_with (go_at_call 25; refine (rtake_some _ HS13.out.rd HT.out).mono ?_)
              first | rintro e w14 rfl hrd14 hq14 | rintro e w14 ⟨rfl, hrd14, hq14⟩
              have HS14 := Lib.hid (HS13.out.go hq14 hrd14 hgr hgB)
              clear hrd14 hq14
              have HR := HRR
              obtain ⟨f0, f1, f2, f3, f4, f5, f6, f7, f8⟩ := bx_cells (c := []) HS14.out.by_
              obtain ⟨e0, e1, e2, e3, e4, e5, e6, e7, e8⟩ := bx_cells (c := []) HS14.out.br
              have e84 := e8 4 (by omega)
              have e85 := e8 5 (by omega)
              have e86 := e8 6 (by omega)
              clear e8
              go_wp2
              refine bodyPost_ret (v := .tuple #[.agg #[.int .i64 7, .string ⟨([]).toArray⟩, .bool false, .slice none ([] : List Row).length 0, .int .i64 (m1 : Int), .int .i64 (m2 : Int), .bool true, .slice (some ⟨w.heap.size + 1 + 1, 0, none⟩) [X].length 1], .int .i64 0]) (by simp [results, Try.results31, go_sem, f0, f1, f2, f3, f4, f5, f6, f7]) rfl ?_
              refine ⟨?_, ?_⟩
              · repeat (refine grown_setNew ?_ (by first | (simp; done) | (simp; omega)) _)
                exact HS14.out.gr
              rw [← HR.out]
              refine ⟨rxc 7 [] false none ([] : List Row).length 0 (m1 : Int) (m2 : Int) true (some ⟨w.heap.size + 1 + 1, 0, none⟩) [X].length 1, rfl, RxV.mono (S := TmB w B) (fun b hb _ => hb.1) ?_, ?_⟩
              · iterate 9 (refine RxV.keep (Kept.setLow _ (fun b hb => by have hb : B ≤ b ∧ b ≠ w.heap.size + 1 ∧ b ≠ w.heap.size + 3 := hb; first | omega | (simp; done) | (simp; omega))) ?_)
                exact RxV.close (SlS.none_ _ _ _ _) HS14.out.ks
              · iterate 9 (refine RdT.setHi ?_ (by first | (simp; done) | (simp; omega)) _)
                exact HS14.out.rd
end Go.Proofs.Ytemophfieihgaaa
set_option maxRecDepth 100000
namespace Go.Proofs.Ytemophfieihgaaa
open Go.RowKit
/- the first look -/
theorem fold_one (b : UInt8) : ([b] : Str).map foldB = [foldB b] := rfl
theorem fold_named (b : UInt8) : namedB (foldB b) = true → (namedB b = true ∧ foldB b = b) ∨ (namedB b = false ∧ foldB b ≠ b ∧ bigS [b] = some (namedL (foldB b))) := by
  intro h
  by_cases hu : 65 ≤ b.toNat ∧ b.toNat ≤ 90
  · right
    have hn : ((foldB b).toNat : Int) = b.toNat + 32 := foldB_up hu
    have hb : namedB b = false := by
      unfold namedB
      simp only [Bool.or_eq_false_iff, beq_eq_false_iff_ne]
      refine ⟨⟨?_, ?_⟩, ?_⟩ <;> (rintro rfl; revert hu; decide)
    refine ⟨hb, fun e => by rw [e] at hn; omega, ?_⟩
    unfold namedB at h
    simp only [Bool.or_eq_true, beq_iff_eq] at h
    rcases h with (h | h) | h
    · rw [h] at hn ⊢
      have : b = 68 := UInt8.toNat_inj.1 (by have : ((100 : UInt8).toNat : Int) = 100 := rfl; rw [this] at hn; show b.toNat = 68; omega)
      subst this; decide
    · rw [h] at hn ⊢
      have : b = 87 := UInt8.toNat_inj.1 (by have : ((119 : UInt8).toNat : Int) = 119 := rfl; rw [this] at hn; show b.toNat = 87; omega)
      subst this; decide
    · rw [h] at hn ⊢
      have : b = 83 := UInt8.toNat_inj.1 (by have : ((115 : UInt8).toNat : Int) = 115 := rfl; rw [this] at hn; show b.toNat = 83; omega)
      subst this; decide
  · left
    rw [foldB_id hu] at h ⊢
    exact ⟨h, rfl⟩
theorem fold_none (b : UInt8) (h : namedB (foldB b) = false) : namedB b = false ∧ bigS [b] = none := by
  constructor
  · cases hb : namedB b with
    | false => rfl
    | true =>
      unfold namedB at hb
      simp only [Bool.or_eq_true, beq_iff_eq] at hb
      rcases hb with (rfl | rfl) | rfl <;> (revert h; decide)
  · unfold bigS
    by_cases h1 : ([b] : Str) = [68]
    · injection h1 with h1; subst h1; revert h; decide
    rw [if_neg h1]
    by_cases h2 : ([b] : Str) = [87]
    · injection h2 with h2; subst h2; revert h; decide
    rw [if_neg h2]
    by_cases h3 : ([b] : Str) = [83]
    · injection h3 with h3; subst h3; revert h; decide
    rw [if_neg h3]
set_option maxHeartbeats 1000000 in
theorem back_any {g : Nat} {r : List Str} (w : World) (h : Rd2 w g r) :
    Calls Try.prog 41 #[.pointer (some ⟨g, 0, none⟩)] w fun e w' => ResQ g w.heap.size w (escM r) e w' := by
  obtain ⟨R, hR⟩ : ∃ R, escM r = R := ⟨_, rfl⟩
  rw [hR]
  cases r with
  | nil =>
    have HR : Hid (Except.error 10 = R) := Lib.hid hR
    clear hR
    obtain ⟨w0, hw0⟩ : ∃ w0, w0 = w.alloc (.cells #[.int .i64 0, .string ⟨#[]⟩, .bool false, .slice none 0 0, .int .i64 0, .int .i64 0, .bool false, .slice none 0 0] 26) := ⟨_, rfl⟩
    obtain ⟨hb0, hz0, hby0⟩ := alloc1 w hw0
    have HRD := Lib.hid (h.later hb0)
    rw [hw0] at HRD
    have HW0 := Lib.hid hw0
    have HBY0 := Lib.hid hby0
    have hgg : w.grownBy w0 (some g) := grown_of_below hb0 _
    have hgr : g < w.heap.size := h.lt
    clear hw0 hby0 h
    go_enter Try.func41, Try.ntmps41
    go_wp2_with (go_at_call 22; refine (rsee_any _ HRD.out).mono ?_)
    first | rintro e w1 rfl hst1 | rintro e w1 ⟨rfl, hst1⟩
    rw [← HW0.out] at hst1
    have HRD1 : Hid (Rd2 w1 g _) := Lib.hid (hst1.rd (HW0.out ▸ HRD.out))
    have hg1 := grown_trans hgg (hst1.grown (some g))
    have HBY1 := Lib.hid (box_grown HBY0.out (hst1.grown (some g)) (by omega))
    have hz1 : w0.heap.size ≤ w1.heap.size := (hst1.grown (some g)).size
    clear hst1
    have hh : hdS ([] : List Str) = [] := rfl
    rw [hh]
    clear hh
    go_wp2_with (go_at_call 52; refine (RFold_any _ _ (by first | (simp; done) | omega | (simp; omega))).mono ?_)
    first | rintro e w2 rfl hbk2 | rintro e w2 ⟨rfl, hbk2⟩
    have HRD2 := Lib.hid (HRD1.out.later hbk2)
    have hg2 := grown_trans hg1 (grown_of_below hbk2 (some g))
    have HBY2 := Lib.hid ((hbk2.block _ (heap_lt HBY1.out)).trans HBY1.out)
    have hz2 := hbk2.size
    clear hbk2
    go_wp2_with (go_at_call 54; refine (escape_none _ (by simp) rfl).mono ?_)
    first | rintro e w3 rfl rfl | rintro e w3 ⟨rfl, rfl⟩
    obtain ⟨f0, f1, f2, f3, f4, f5, f6, f7, f8⟩ := bx_cells (c := []) HBY2.out
    go_wp2
    refine bodyPost_ret (v := .tuple #[.agg #[.int .i64 0, .string ⟨([]).toArray⟩, .bool false, .slice none 0 0, .int .i64 0, .int .i64 0, .bool false, .slice none 0 0], .int .i64 10]) (by simp [results, Try.results41, go_sem, f0, f1, f2, f3, f4, f5, f6, f7]) rfl ?_
    refine ⟨?_, ?_⟩
    · iterate 8 (refine grown_setNew ?_ (by first | omega | (simp; done) | (simp; omega)) _)
      exact hg2
    · rw [← HR.out]; rfl
  | cons c r1 =>
    have hp := h.pos
    match c, hp with
    | [], hp => exact absurd rfl hp.1
    | [b], _ =>
      cases hnb : namedB (foldB b) with
      | true =>
        have HNB := Lib.hid hnb
        obtain ⟨ng, hne, HR⟩ : ∃ ng : Bool, (([b] : Str) != [foldB b]) = ng ∧ Hid (Except.ok (setR (namedL (foldB b)) ng, r1) = R) := by
          rcases fold_named b hnb with ⟨h1, h2⟩ | ⟨h1, h2, h3⟩
          · refine ⟨false, by rw [h2]; simp, Lib.hid (by rw [← hR, h2]; simp only [escM, namedS_one, h1, if_true])⟩
          · refine ⟨true, by simp; exact fun e => h2 e.symm, Lib.hid (by rw [← hR]; simp only [escM, namedS_one, h1, h3]; rfl)⟩
        obtain ⟨fb, hfb⟩ : ∃ fb, foldB b = fb := ⟨_, rfl⟩
        have HFB : Hid (([b] : Str).map foldB = [fb]) := Lib.hid (by rw [fold_one, hfb])
        rw [hfb] at hne HR HNB
        have hne2 : (b == fb) = !ng := by rw [← hne]; simp [bne]
        clear hR hnb hfb hne
        obtain ⟨w0, hw0⟩ : ∃ w0, w0 = w.alloc (.cells #[.int .i64 0, .string ⟨#[]⟩, .bool false, .slice none 0 0, .int .i64 0, .int .i64 0, .bool false, .slice none 0 0] 26) := ⟨_, rfl⟩
        obtain ⟨hb0, hz0, hby0⟩ := alloc1 w hw0
        have HRD := Lib.hid (h.later hb0)
        rw [hw0] at HRD
        have HW0 := Lib.hid hw0
        have HBY0 := Lib.hid hby0
        have hgg : w.grownBy w0 (some g) := grown_of_below hb0 _
        have hgr : g < w.heap.size := h.lt
        clear hw0 hby0 h
        go_enter Try.func41, Try.ntmps41
        go_wp2_with (go_at_call 22; refine (rsee_any _ HRD.out).mono ?_)
        first | rintro e w1 rfl hst1 | rintro e w1 ⟨rfl, hst1⟩
        rw [← HW0.out] at hst1
        have HRD1 : Hid (Rd2 w1 g _) := Lib.hid (hst1.rd (HW0.out ▸ HRD.out))
        have hg1 := grown_trans hgg (hst1.grown (some g))
        have HBY1 := Lib.hid (box_grown HBY0.out (hst1.grown (some g)) (by omega))
        have hz1 : w0.heap.size ≤ w1.heap.size := (hst1.grown (some g)).size
        clear hst1
        rw [hdS_cons]
        go_wp2_with (go_at_call 52; refine (RFold_any _ _ (by first | (simp; done) | omega | (simp; omega))).mono ?_)
        first | rintro e w2 rfl hbk2 | rintro e w2 ⟨rfl, hbk2⟩
        have HRD2 := Lib.hid (HRD1.out.later hbk2)
        have hg2 := grown_trans hg1 (grown_of_below hbk2 (some g))
        have HBY2 := Lib.hid ((hbk2.block _ (heap_lt HBY1.out)).trans HBY1.out)
        have hz2 := hbk2.size
        clear hbk2
        rw [HFB.out]
        go_wp2_with (go_at_call 53; refine (RNamed_yes _ HNB.out).mono ?_)
        rintro e w3 hq
        obtain ⟨a, k, rfl, hsl, hb3⟩ := hq
        have hg3 := grown_trans hg2 (grown_of_below hb3 (some g))
        have hrd3 := HRD2.out.later hb3
        have hby3 := (hb3.block _ (heap_lt HBY2.out)).trans HBY2.out
        have HV : Hid (RxV w3 (fun b => w.heap.size ≤ b ∧ b ≠ w.heap.size) (rxc 4 [] ng (some a) (namedL fb).length k 0 0 false none ([] : List Rx).length 0) (setR (namedL fb) ng)) := Lib.hid
          (RxV.close (hsl.mono fun x hx _ => by have : w2.heap.size ≤ x := hx; constructor <;> omega) ⟨[], SlS.none_ _ _ _ _, .nil⟩)
        obtain ⟨i5, hi5, c5, hf5, hr5⟩ := hrd3.step
        have HR5 := Lib.hid hr5
        have hg5 := grown_set hg3 1 (.int .i64 ((i5 : Int) + 1))
        have HV5 := Lib.hid (HV.out.keep (Kept.setLow (a := ⟨g, 1, none⟩) (.int .i64 ((i5 : Int) + 1)) (fun b hb => by have : w.heap.size ≤ b ∧ b ≠ w.heap.size := hb; show b ≠ g; omega)))
        obtain ⟨f0, f1, f2, f3, f4, f5, f6, f7, f8⟩ := bx_cells (c := []) hby3
        clear hsl hby3 hrd3 hr5 HV
        go_wp2
        refine bodyPost_ret (v := .tuple #[.agg #[.int .i64 4, .string ⟨([]).toArray⟩, .bool ng, .slice (some a) (namedL fb).length k, .int .i64 0, .int .i64 0, .bool false, .slice none ([] : List Rx).length 0], .int .i64 0]) (by simp [results, Try.results41, go_sem, f0, f1, f2, f3, f4, f5, f6, f7]) rfl ?_
        refine ⟨?_, ?_⟩
        · iterate 8 (refine grown_setNew ?_ (by first | omega | (simp; done) | (simp; omega)) _)
          exact hg5
        rw [← HR.out]
        refine ⟨rxc 4 [] ng (some a) (namedL fb).length k 0 0 false none ([] : List Rx).length 0, rfl, RxV.mono (S := fun b => w.heap.size ≤ b ∧ b ≠ w.heap.size) (fun b hb _ => hb.1) ?_, ?_⟩
        · iterate 8 (refine RxV.keep (Kept.setLow _ (fun b hb => by have : w.heap.size ≤ b ∧ b ≠ w.heap.size := hb; first | omega | (simp; done) | (simp; omega))) ?_)
          exact HV5.out
        · iterate 8 (refine RdT.setHi ?_ (by first | omega | (simp; done) | (simp; omega)) _)
          exact HR5.out
      | false =>
        have HNB := Lib.hid hnb
        obtain ⟨hn1, hn2⟩ := fold_none b hnb
        obtain ⟨fb, hfb⟩ : ∃ fb, foldB b = fb := ⟨_, rfl⟩
        have HFB : Hid (([b] : Str).map foldB = [fb]) := Lib.hid (by rw [fold_one, hfb])
        rw [hfb] at HNB
        cases hpm : plainM [b] with
        | none =>
          have HR : Hid (Except.error 10 = R) := Lib.hid (by rw [← hR]; simp only [escM, namedS_one, hn1, hn2, hpm]; rfl)
          have HPM := Lib.hid hpm
          clear hR hnb hfb hn1 hn2 hpm
          obtain ⟨w0, hw0⟩ : ∃ w0, w0 = w.alloc (.cells #[.int .i64 0, .string ⟨#[]⟩, .bool false, .slice none 0 0, .int .i64 0, .int .i64 0, .bool false, .slice none 0 0] 26) := ⟨_, rfl⟩
          obtain ⟨hb0, hz0, hby0⟩ := alloc1 w hw0
          have HRD := Lib.hid (h.later hb0)
          rw [hw0] at HRD
          have HW0 := Lib.hid hw0
          have HBY0 := Lib.hid hby0
          have hgg : w.grownBy w0 (some g) := grown_of_below hb0 _
          have hgr : g < w.heap.size := h.lt
          clear hw0 hby0 h
          go_enter Try.func41, Try.ntmps41
          go_wp2_with (go_at_call 22; refine (rsee_any _ HRD.out).mono ?_)
          first | rintro e w1 rfl hst1 | rintro e w1 ⟨rfl, hst1⟩
          rw [← HW0.out] at hst1
          have HRD1 : Hid (Rd2 w1 g _) := Lib.hid (hst1.rd (HW0.out ▸ HRD.out))
          have hg1 := grown_trans hgg (hst1.grown (some g))
          have HBY1 := Lib.hid (box_grown HBY0.out (hst1.grown (some g)) (by omega))
          have hz1 : w0.heap.size ≤ w1.heap.size := (hst1.grown (some g)).size
          clear hst1
          rw [hdS_cons]
          go_wp2_with (go_at_call 52; refine (RFold_any _ _ (by first | (simp; done) | omega | (simp; omega))).mono ?_)
          first | rintro e w2 rfl hbk2 | rintro e w2 ⟨rfl, hbk2⟩
          have HRD2 := Lib.hid (HRD1.out.later hbk2)
          have hg2 := grown_trans hg1 (grown_of_below hbk2 (some g))
          have HBY2 := Lib.hid ((hbk2.block _ (heap_lt HBY1.out)).trans HBY1.out)
          have hz2 := hbk2.size
          clear hbk2
          rw [HFB.out]
          go_wp2_with (go_at_call 53; refine (RNamed_no _ HNB.out).mono ?_)
          rintro e w3 hq
          obtain ⟨v, rfl, hb3⟩ := hq
          have hg3 := grown_trans hg2 (grown_of_below hb3 (some g))
          have HBY3 := Lib.hid ((hb3.block _ (heap_lt HBY2.out)).trans HBY2.out)
          go_wp2_with (go_at_call 54; refine (escape_none _ (by simp) HPM.out).mono ?_)
          first | rintro e w4 rfl rfl | rintro e w4 ⟨rfl, rfl⟩
          obtain ⟨f0, f1, f2, f3, f4, f5, f6, f7, f8⟩ := bx_cells (c := []) HBY3.out
          go_wp2
          refine bodyPost_ret (v := .tuple #[.agg #[.int .i64 0, .string ⟨([]).toArray⟩, .bool false, .slice none 0 0, .int .i64 0, .int .i64 0, .bool false, .slice none 0 0], .int .i64 10]) (by simp [results, Try.results41, go_sem, f0, f1, f2, f3, f4, f5, f6, f7]) rfl ?_
          refine ⟨?_, ?_⟩
          · iterate 8 (refine grown_setNew ?_ (by first | omega | (simp; done) | (simp; omega)) _)
            exact hg3
          · rw [← HR.out]; rfl
        | some t =>
          have HR : Hid (Except.ok (chrR t, r1) = R) := Lib.hid (by rw [← hR]; simp only [escM, namedS_one, hn1, hn2, hpm]; rfl)
          have HPM := Lib.hid hpm
          clear hR hnb hfb hn1 hn2 hpm
          obtain ⟨w0, hw0⟩ : ∃ w0, w0 = w.alloc (.cells #[.int .i64 0, .string ⟨#[]⟩, .bool false, .slice none 0 0, .int .i64 0, .int .i64 0, .bool false, .slice none 0 0] 26) := ⟨_, rfl⟩
          obtain ⟨hb0, hz0, hby0⟩ := alloc1 w hw0
          have HRD := Lib.hid (h.later hb0)
          rw [hw0] at HRD
          have HW0 := Lib.hid hw0
          have HBY0 := Lib.hid hby0
          have hgg : w.grownBy w0 (some g) := grown_of_below hb0 _
          have hgr : g < w.heap.size := h.lt
          clear hw0 hby0 h
          go_enter Try.func41, Try.ntmps41
          go_wp2_with (go_at_call 22; refine (rsee_any _ HRD.out).mono ?_)
          first | rintro e w1 rfl hst1 | rintro e w1 ⟨rfl, hst1⟩
          rw [← HW0.out] at hst1
          have HRD1 : Hid (Rd2 w1 g _) := Lib.hid (hst1.rd (HW0.out ▸ HRD.out))
          have hg1 := grown_trans hgg (hst1.grown (some g))
          have HBY1 := Lib.hid (box_grown HBY0.out (hst1.grown (some g)) (by omega))
          have hz1 : w0.heap.size ≤ w1.heap.size := (hst1.grown (some g)).size
          clear hst1
          rw [hdS_cons]
          go_wp2_with (go_at_call 52; refine (RFold_any _ _ (by first | (simp; done) | omega | (simp; omega))).mono ?_)
          first | rintro e w2 rfl hbk2 | rintro e w2 ⟨rfl, hbk2⟩
          have HRD2 := Lib.hid (HRD1.out.later hbk2)
          have hg2 := grown_trans hg1 (grown_of_below hbk2 (some g))
          have HBY2 := Lib.hid ((hbk2.block _ (heap_lt HBY1.out)).trans HBY1.out)
          have hz2 := hbk2.size
          clear hbk2
          rw [HFB.out]
          go_wp2_with (go_at_call 53; refine (RNamed_no _ HNB.out).mono ?_)
          rintro e w3 hq
          obtain ⟨v, rfl, hb3⟩ := hq
          have hg3 := grown_trans hg2 (grown_of_below hb3 (some g))
          have HRD3 := Lib.hid (HRD2.out.later hb3)
          have HBY3 := Lib.hid ((hb3.block _ (heap_lt HBY2.out)).trans HBY2.out)
          clear hb3
          go_wp2_with (go_at_call 54; refine (escape_some _ (by simp) HPM.out).mono ?_)
          first | rintro e w4 rfl rfl | rintro e w4 ⟨rfl, rfl⟩
          obtain ⟨i5, hi5, c5, hf5, hr5⟩ := HRD3.out.step
          have HR5 := Lib.hid hr5
          have hg5 := grown_set hg3 1 (.int .i64 ((i5 : Int) + 1))
          obtain ⟨f0, f1, f2, f3, f4, f5, f6, f7, f8⟩ := bx_cells (c := []) HBY3.out
          clear hr5
          go_wp2
          refine bodyPost_ret (v := .tuple #[.agg #[.int .i64 2, .string ⟨(t).toArray⟩, .bool false, .slice none ([] : List Row).length 0, .int .i64 0, .int .i64 0, .bool false, .slice none ([] : List Rx).length 0], .int .i64 0]) (by simp [results, Try.results41, go_sem, f0, f1, f2, f3, f4, f5, f6, f7]) rfl ?_
          refine ⟨?_, ?_⟩
          · iterate 8 (refine grown_setNew ?_ (by first | omega | (simp; done) | (simp; omega)) _)
            exact hg5
          rw [← HR.out]
          refine ⟨rxc 2 t false none ([] : List Row).length 0 0 0 false none ([] : List Rx).length 0, rfl, RxV.mono (S := fun b => w.heap.size ≤ b ∧ b ≠ w.heap.size) (fun b hb _ => hb.1) ?_, ?_⟩
          · iterate 8 (refine RxV.keep (Kept.setLow _ (fun b hb => by have : w.heap.size ≤ b ∧ b ≠ w.heap.size := hb; first | omega | (simp; done) | (simp; omega))) ?_)
            exact (RxV.close (SlS.none_ _ _ _ _) ⟨[], SlS.none_ _ _ _ _, .nil⟩)
          · iterate 8 (refine RdT.setHi ?_ (by first | omega | (simp; done) | (simp; omega)) _)
            exact HR5.out
    | b :: b2 :: t2, hp =>
      have hlt := hp.2
      simp only [List.length_cons] at hlt
      have hne1 : ((t2.length : Int) + 1 + 1 == 1) = false := by rw [beq_eq_false_iff_ne]; omega
      have hpm : plainM (b :: b2 :: t2) = some (b :: b2 :: t2) := by unfold plainM; simp [wordB]
      have HPM := Lib.hid hpm
      have HR : Hid (Except.ok (chrR (b :: b2 :: t2), r1) = R) := Lib.hid (by
        rw [← hR]; simp only [escM, namedS, hpm]; unfold bigS; simp)
      clear hR hpm
      obtain ⟨w0, hw0⟩ : ∃ w0, w0 = w.alloc (.cells #[.int .i64 0, .string ⟨#[]⟩, .bool false, .slice none 0 0, .int .i64 0, .int .i64 0, .bool false, .slice none 0 0] 26) := ⟨_, rfl⟩
      obtain ⟨hb0, hz0, hby0⟩ := alloc1 w hw0
      have HRD := Lib.hid (h.later hb0)
      rw [hw0] at HRD
      have HW0 := Lib.hid hw0
      have HBY0 := Lib.hid hby0
      have hgg : w.grownBy w0 (some g) := grown_of_below hb0 _
      have hgr : g < w.heap.size := h.lt
      clear hw0 hby0 h
      go_enter Try.func41, Try.ntmps41
      go_wp2_with (go_at_call 22; refine (rsee_any _ HRD.out).mono ?_)
      first | rintro e w1 rfl hst1 | rintro e w1 ⟨rfl, hst1⟩
      rw [← HW0.out] at hst1
      have HRD1 : Hid (Rd2 w1 g _) := Lib.hid (hst1.rd (HW0.out ▸ HRD.out))
      have hg1 := grown_trans hgg (hst1.grown (some g))
      have HBY1 := Lib.hid (box_grown HBY0.out (hst1.grown (some g)) (by omega))
      have hz1 : w0.heap.size ≤ w1.heap.size := (hst1.grown (some g)).size
      clear hst1
      rw [hdS_cons]
      go_wp2_with (go_at_call 52; refine (RFold_any _ _ (by first | (simp; done) | omega | (simp; omega))).mono ?_)
      first | rintro e w2 rfl hbk2 | rintro e w2 ⟨rfl, hbk2⟩
      have HRD2 := Lib.hid (HRD1.out.later hbk2)
      have hg2 := grown_trans hg1 (grown_of_below hbk2 (some g))
      have HBY2 := Lib.hid ((hbk2.block _ (heap_lt HBY1.out)).trans HBY1.out)
      have hz2 := hbk2.size
      clear hbk2
      go_wp2_with (go_at_call 54; refine (escape_some _ (by simp; omega) HPM.out).mono ?_)
      first | rintro e w4 rfl rfl | rintro e w4 ⟨rfl, rfl⟩
      obtain ⟨i5, hi5, c5, hf5, hr5⟩ := HRD2.out.step
      have HR5 := Lib.hid hr5
      have hg5 := grown_set hg2 1 (.int .i64 ((i5 : Int) + 1))
      obtain ⟨f0, f1, f2, f3, f4, f5, f6, f7, f8⟩ := bx_cells (c := []) HBY2.out
      clear hr5
      go_wp2
      refine bodyPost_ret (v := .tuple #[.agg #[.int .i64 2, .string ⟨((b :: b2 :: t2)).toArray⟩, .bool false, .slice none ([] : List Row).length 0, .int .i64 0, .int .i64 0, .bool false, .slice none ([] : List Rx).length 0], .int .i64 0]) (by simp [results, Try.results41, go_sem, f0, f1, f2, f3, f4, f5, f6, f7]) rfl ?_
      refine ⟨?_, ?_⟩
      · iterate 8 (refine grown_setNew ?_ (by first | omega | (simp; done) | (simp; omega)) _)
        exact hg5
      rw [← HR.out]
      refine ⟨rxc 2 (b :: b2 :: t2) false none ([] : List Row).length 0 0 0 false none ([] : List Rx).length 0, rfl, RxV.mono (S := fun b => w.heap.size ≤ b ∧ b ≠ w.heap.size) (fun b hb _ => hb.1) ?_, ?_⟩
      · iterate 8 (refine RxV.keep (Kept.setLow _ (fun b hb => by have : w.heap.size ≤ b ∧ b ≠ w.heap.size := hb; first | omega | (simp; done) | (simp; omega))) ?_)
        exact (RxV.close (SlS.none_ _ _ _ _) ⟨[], SlS.none_ _ _ _ _, .nil⟩)
      · iterate 8 (refine RdT.setHi ?_ (by first | omega | (simp; done) | (simp; omega)) _)
        exact HR5.out
end Go.Proofs.Ytemophfieihgaaa
