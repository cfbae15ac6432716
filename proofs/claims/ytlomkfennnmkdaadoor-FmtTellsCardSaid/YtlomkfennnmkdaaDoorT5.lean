/- walk of casing.Turn -/
import Derived.Test.YtlomkfennnmkdaaDoorT4
namespace Go.Proofs.YtlomkfennnmkdaaDoor
open Go.RowKit
theorem map_set (f : UInt8 → UInt8) (l : Str) (k : Nat) (hk : k < l.length) : ((l.take k).map f ++ l.drop k).set k (f l[k]) = (l.take (k + 1)).map f ++ l.drop (k + 1) := by
  apply List.ext_getElem?
  intro i
  have e1 : ((l.take k).map f).length = k := by simp; omega
  have e2 : ((l.take (k + 1)).map f).length = k + 1 := by simp; omega
  rw [List.getElem?_set]
  by_cases h : k = i
  · subst h
    rw [if_pos rfl, if_pos (by simp; omega), List.getElem?_append_left (by omega), List.getElem?_map, List.getElem?_take_of_lt (by omega), List.getElem?_eq_getElem hk]; rfl
  · rw [if_neg h]
    by_cases h2 : i < k
    · rw [List.getElem?_append_left (by omega), List.getElem?_append_left (by omega), List.getElem?_map, List.getElem?_map, List.getElem?_take_of_lt h2, List.getElem?_take_of_lt (by omega)]
    · rw [List.getElem?_append_right (by omega), List.getElem?_append_right (by omega), e1, e2, List.getElem?_drop, List.getElem?_drop]
      congr 1; omega
set_option maxHeartbeats 1000000 in
theorem Turn_up (l : Str) (w : World) (hs : l.length ≤ 1000000) :
    Calls Tryd.prog 27 #[.string ⟨(l).toArray⟩, .int .i64 1] w fun e w' => e = .returned (.tuple #[.string ⟨(l.map upB).toArray⟩, .int .i64 0]) ∧ Below w.heap.size w w' := by
  obtain ⟨cap, w0, hcv, hrow, hb0, hsz⟩ := BRow.made (P := Tryd.prog) w (src := 9) (dst := 43) l Tryd.underlying9 Tryd.underlying43 Tryd.underlying5
  have HZ := Lib.hid hsz; clear hsz
  have hsz0 : w.heap.size < w0.heap.size := by have := HZ.out; omega
  go_enter Tryd.func27, Tryd.ntmps27
  go_wp2_with (fail)
  go_loopw [18] (fun q wr => ∃ k : Nat, k ≤ l.length ∧ q = .int .i64 k ∧ BRow wr w.heap.size ((l.take k).map upB ++ l.drop k) ∧ Below w.heap.size w wr ∧ w.heap.size < wr.heap.size) (fun q _ => l.length - (intOf q).toNat)
  case atStart => exact ⟨0, by omega, rfl, by simpa using hrow, hb0, by omega⟩
  case round =>
    obtain ⟨k, hk, rfl, hr, hb, hlt⟩ := hrel
    by_cases h2 : k < l.length
    · have hc := hr.cell (j := k) (c := l[k]) (by rw [List.getElem?_append_right (by simp; omega), List.getElem?_drop, List.length_map, List.length_take, show k + (k - min k l.length) = k by omega, List.getElem?_eq_getElem h2])
      have hf := hr.free (j := k) (by simp; omega)
      have h256 := u8_lt l[k]
      have HS := hr.set (j := k) (upB l[k])
      rw [map_set upB l k h2] at HS
      have HS' := Lib.hid HS; clear HS
      generalize hx : l[k] = x at *
      have Hx := Lib.hid hx; clear hx
      go_wp2_with (go_at_call 38; refine (upper_any _ _ (by omega) (by omega)).mono ?_; rintro e w1 ⟨rfl, rfl⟩)
      go_roundw
      case rel => exact ⟨k + 1, by omega, by go_num, HS'.out, hb.setCell (p := ⟨w.heap.size, k, none⟩) (Nat.le_refl _) _, by simp [World.setCell]; omega⟩
      case measure => simp [intOf]; omega
    · have hkl : k = l.length := by omega
      subst hkl
      have hcv2 := hr.back (P := Tryd.prog) (src := 43) (dst := 9) Tryd.underlying43 Tryd.underlying5 Tryd.underlying9 cap
      simp only [List.take_length, List.drop_length, List.append_nil, List.length_map] at hcv2
      go_wp2
      go_ret2
      exact ⟨rfl, hb⟩
set_option maxHeartbeats 1000000 in
theorem Turn_down (l : Str) (w : World) (hs : l.length ≤ 1000000) :
    Calls Tryd.prog 27 #[.string ⟨(l).toArray⟩, .int .i64 2] w fun e w' => e = .returned (.tuple #[.string ⟨(l.map lowB).toArray⟩, .int .i64 0]) ∧ Below w.heap.size w w' := by
  obtain ⟨cap, w0, hcv, hrow, hb0, hsz⟩ := BRow.made (P := Tryd.prog) w (src := 9) (dst := 43) l Tryd.underlying9 Tryd.underlying43 Tryd.underlying5
  have HZ := Lib.hid hsz; clear hsz
  have hsz0 : w.heap.size < w0.heap.size := by have := HZ.out; omega
  go_enter Tryd.func27, Tryd.ntmps27
  go_wp2_with (fail)
  go_loopw [33] (fun q wr => ∃ k : Nat, k ≤ l.length ∧ q = .int .i64 k ∧ BRow wr w.heap.size ((l.take k).map lowB ++ l.drop k) ∧ Below w.heap.size w wr ∧ w.heap.size < wr.heap.size) (fun q _ => l.length - (intOf q).toNat)
  case atStart => exact ⟨0, by omega, rfl, by simpa using hrow, hb0, by omega⟩
  case round =>
    obtain ⟨k, hk, rfl, hr, hb, hlt⟩ := hrel
    by_cases h2 : k < l.length
    · have hc := hr.cell (j := k) (c := l[k]) (by rw [List.getElem?_append_right (by simp; omega), List.getElem?_drop, List.length_map, List.length_take, show k + (k - min k l.length) = k by omega, List.getElem?_eq_getElem h2])
      have hf := hr.free (j := k) (by simp; omega)
      have h256 := u8_lt l[k]
      have HS := hr.set (j := k) (lowB l[k])
      rw [map_set lowB l k h2] at HS
      have HS' := Lib.hid HS; clear HS
      generalize hx : l[k] = x at *
      have Hx := Lib.hid hx; clear hx
      go_wp2_with (go_at_call 39; refine (lower_any _ _ (by omega) (by omega)).mono ?_; rintro e w1 ⟨rfl, rfl⟩)
      go_roundw
      case rel => exact ⟨k + 1, by omega, by go_num, HS'.out, hb.setCell (p := ⟨w.heap.size, k, none⟩) (Nat.le_refl _) _, by simp [World.setCell]; omega⟩
      case measure => simp [intOf]; omega
    · have hkl : k = l.length := by omega
      subst hkl
      have hcv2 := hr.back (P := Tryd.prog) (src := 43) (dst := 9) Tryd.underlying43 Tryd.underlying5 Tryd.underlying9 cap
      simp only [List.take_length, List.drop_length, List.append_nil, List.length_map] at hcv2
      go_wp2
      go_ret2
      exact ⟨rfl, hb⟩
set_option maxHeartbeats 1000000 in
theorem Turn_cap (l : Str) (w : World) (hs : l.length ≤ 1000000) :
    Calls Tryd.prog 27 #[.string ⟨(l).toArray⟩, .int .i64 3] w fun e w' => e = .returned (.tuple #[.string ⟨(capB l).toArray⟩, .int .i64 0]) ∧ Below w.heap.size w w' := by
  obtain ⟨cap, w0, hcv, hrow, hb0, hsz⟩ := BRow.made (P := Tryd.prog) w (src := 9) (dst := 43) l Tryd.underlying9 Tryd.underlying43 Tryd.underlying5
  have HZ := Lib.hid hsz; clear hsz
  have hsz0 : w.heap.size < w0.heap.size := by have := HZ.out; omega
  cases l with
  | nil =>
    have hcv2 := hrow.back (P := Tryd.prog) (src := 43) (dst := 9) Tryd.underlying43 Tryd.underlying5 Tryd.underlying9 cap
    simp only [List.length_nil] at hcv hcv2
    go_enter Tryd.func27, Tryd.ntmps27
    go_wp2_with (fail)
    go_ret2
    exact ⟨rfl, hb0⟩
  | cons c r =>
    have hc := hrow.cell (j := 0) (c := c) rfl
    have hf := hrow.free (j := 0) (by simp)
    have h256 := u8_lt c
    have HS := hrow.set (j := 0) (upB c)
    have hcv2 := HS.back (P := Tryd.prog) (src := 43) (dst := 9) Tryd.underlying43 Tryd.underlying5 Tryd.underlying9 cap
    simp only [List.set_cons_zero, List.length_cons] at hcv2
    clear HS
    go_enter Tryd.func27, Tryd.ntmps27
    go_wp2_with (go_at_call 38; refine (upper_any _ _ (by omega) (by omega)).mono ?_; rintro e w1 ⟨rfl, rfl⟩)
    go_ret2
    exact ⟨rfl, hb0.setCell (p := ⟨w.heap.size, 0, none⟩) (Nat.le_refl _) _⟩
set_option maxHeartbeats 1000000 in
theorem Turn_any (l : Str) (way : Int) (w : World) (hs : l.length ≤ 1000000) :
    Calls Tryd.prog 27 #[.string ⟨(l).toArray⟩, .int .i64 way] w fun e w' => e = .returned (.tuple #[.string ⟨((turn l way).1).toArray⟩, .int .i64 (turn l way).2]) ∧ Below w.heap.size w w' := by
  by_cases h1 : way = 1
  · subst h1; exact Turn_up l w hs
  by_cases h2 : way = 2
  · subst h2; exact Turn_down l w hs
  by_cases h3 : way = 3
  · subst h3; exact Turn_cap l w hs
  obtain ⟨cap, w0, hcv, hrow, hb0, hsz⟩ := BRow.made (P := Tryd.prog) w (src := 9) (dst := 43) l Tryd.underlying9 Tryd.underlying43 Tryd.underlying5
  have HZ := Lib.hid hsz; clear hsz
  by_cases h4 : way = 4
  · subst h4
    go_enter Tryd.func27, Tryd.ntmps27
    go_wp2_with (go_at_call 40; refine (joined_any _ _ _ hs).mono ?_; rintro e w1 ⟨rfl, hb1⟩)
    go_ret2
    exact ⟨rfl, hb0.trans (hb1.mono hb0.size)⟩
  by_cases h5 : way = 5
  · subst h5
    go_enter Tryd.func27, Tryd.ntmps27
    go_wp2_with (go_at_call 40; refine (joined_any _ _ _ hs).mono ?_; rintro e w1 ⟨rfl, hb1⟩)
    go_ret2
    exact ⟨rfl, hb0.trans (hb1.mono hb0.size)⟩
  have hT : turn l way = ([], 2) := by unfold turn; rw [if_neg h1, if_neg h2, if_neg h3, if_neg h4, if_neg h5]
  rw [hT]
  have e1 : (way == 1) = false := by simpa using h1
  have e2 : (way == 2) = false := by simpa using h2
  have e3 : (way == 3) = false := by simpa using h3
  have e4 : (way == 4) = false := by simpa using h4
  have e5 : (way == 5) = false := by simpa using h5
  clear h1 h2 h3 h4 h5 hT
  go_enter Tryd.func27, Tryd.ntmps27
  go_wp2_with (fail)
  go_ret2
  exact ⟨rfl, hb0⟩
end Go.Proofs.YtlomkfennnmkdaaDoor
