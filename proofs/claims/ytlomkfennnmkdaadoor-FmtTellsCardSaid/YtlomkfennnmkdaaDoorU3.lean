/- walks of the references: gimletref17.Turn -/
import Derived.Test.YtlomkfennnmkdaaDoorU2
namespace Go.Proofs.YtlomkfennnmkdaaDoor
open Go.RowKit
theorem rup_gen (z : Int) (w : World) (h0 : 0 ≤ z) (h1 : z < 256) : Calls Tryd.prog 41 #[.int .u8 z] w fun e w' => e = .returned (.int .u8 (upB (UInt8.ofNat z.toNat)).toNat) ∧ w = w' := by
  have h := rup_any (UInt8.ofNat z.toNat) w
  rw [show ((UInt8.ofNat z.toNat).toNat : Int) = z by rw [ofNat_nat h1]; omega] at h
  exact h
theorem rdown_gen (z : Int) (w : World) (h0 : 0 ≤ z) (h1 : z < 256) : Calls Tryd.prog 42 #[.int .u8 z] w fun e w' => e = .returned (.int .u8 (lowB (UInt8.ofNat z.toNat)).toNat) ∧ w = w' := by
  have h := rdown_any (UInt8.ofNat z.toNat) w
  rw [show ((UInt8.ofNat z.toNat).toNat : Int) = z by rw [ofNat_nat h1]; omega] at h
  exact h
set_option maxHeartbeats 1000000 in
theorem rTurn_up (l : Str) (w : World) (hs : l.length ≤ 1000000) :
    Calls Tryd.prog 28 #[.string ⟨(l).toArray⟩, .int .i64 1] w fun e w' => e = .returned (.tuple #[.string ⟨(l.map upB).toArray⟩, .int .i64 0]) ∧ Below w.heap.size w w' := by
  obtain ⟨cap, w0, hcv, hrow, hb0, hsz⟩ := BRow.made (P := Tryd.prog) w (src := 9) (dst := 43) l Tryd.underlying9 Tryd.underlying43 Tryd.underlying5
  have HZ := Lib.hid hsz; clear hsz
  have hsz0 : w.heap.size < w0.heap.size := by have := HZ.out; omega
  go_enter Tryd.func28, Tryd.ntmps28
  go_wp2_with (fail)
  go_loopw [7] (fun q wr => ∃ k : Nat, k ≤ l.length ∧ q = .int .i64 k ∧ BRow wr w.heap.size ((l.take k).map upB ++ l.drop k) ∧ Below w.heap.size w wr ∧ w.heap.size < wr.heap.size) (fun q _ => l.length - (intOf q).toNat)
  case atStart => exact ⟨0, by omega, rfl, by simpa using hrow, hb0, by omega⟩
  case round =>
    obtain ⟨k, hk, rfl, hr, hb, hlt⟩ := hrel
    by_cases h2 : k < l.length
    · have hc := hr.cell (j := k) (c := l[k]) (by rw [List.getElem?_append_right (by simp; omega), List.getElem?_drop, List.length_map, List.length_take, show k + (k - min k l.length) = k by omega, List.getElem?_eq_getElem h2])
      have hf := hr.free (j := k) (by simp; omega)
      have h256 := u8_lt l[k]
      have HS := hr.set (j := k) (upB l[k])
      rw [map_set upB l k h2] at HS
      have HS' := Lib.hid HS; clear HS
      generalize hx : l[k] = x at *
      have Hx := Lib.hid hx; clear hx
      go_wp2_with (go_at_call 41; refine (rup_gen _ _ (by omega) (by omega)).mono ?_; rintro e w1 ⟨rfl, rfl⟩)
      go_roundw
      case rel => exact ⟨k + 1, by omega, by go_num, HS'.out, hb.setCell (p := ⟨w.heap.size, k, none⟩) (Nat.le_refl _) _, by simp [World.setCell]; omega⟩
      case measure => simp [intOf]; omega
    · have hkl : k = l.length := by omega
      subst hkl
      have hcv2 := hr.back (P := Tryd.prog) (src := 43) (dst := 9) Tryd.underlying43 Tryd.underlying5 Tryd.underlying9 cap
      simp only [List.take_length, List.drop_length, List.append_nil, List.length_map] at hcv2
      go_wp2
      go_ret2
      exact ⟨rfl, hb⟩
set_option maxHeartbeats 1000000 in
theorem rTurn_down (l : Str) (w : World) (hs : l.length ≤ 1000000) :
    Calls Tryd.prog 28 #[.string ⟨(l).toArray⟩, .int .i64 2] w fun e w' => e = .returned (.tuple #[.string ⟨(l.map lowB).toArray⟩, .int .i64 0]) ∧ Below w.heap.size w w' := by
  obtain ⟨cap, w0, hcv, hrow, hb0, hsz⟩ := BRow.made (P := Tryd.prog) w (src := 9) (dst := 43) l Tryd.underlying9 Tryd.underlying43 Tryd.underlying5
  have HZ := Lib.hid hsz; clear hsz
  have hsz0 : w.heap.size < w0.heap.size := by have := HZ.out; omega
  go_enter Tryd.func28, Tryd.ntmps28
  go_wp2_with (fail)
  go_loopw [8] (fun q wr => ∃ k : Nat, k ≤ l.length ∧ q = .int .i64 k ∧ BRow wr w.heap.size ((l.take k).map lowB ++ l.drop k) ∧ Below w.heap.size w wr ∧ w.heap.size < wr.heap.size) (fun q _ => l.length - (intOf q).toNat)
  case atStart => exact ⟨0, by omega, rfl, by simpa using hrow, hb0, by omega⟩
  case round =>
    obtain ⟨k, hk, rfl, hr, hb, hlt⟩ := hrel
    by_cases h2 : k < l.length
    · have hc := hr.cell (j := k) (c := l[k]) (by rw [List.getElem?_append_right (by simp; omega), List.getElem?_drop, List.length_map, List.length_take, show k + (k - min k l.length) = k by omega, List.getElem?_eq_getElem h2])
      have hf := hr.free (j := k) (by simp; omega)
      have h256 := u8_lt l[k]
      have HS := hr.set (j := k) (lowB l[k])
      rw [map_set lowB l k h2] at HS
      have HS' := Lib.hid HS; clear HS
      generalize hx : l[k] = x at *
      have Hx := Lib.hid hx; clear hx
      go_wp2_with (go_at_call 42; refine (rdown_gen _ _ (by omega) (by omega)).mono ?_; rintro e w1 ⟨rfl, rfl⟩)
      go_roundw
      case rel => exact ⟨k + 1, by omega, by go_num, HS'.out, hb.setCell (p := ⟨w.heap.size, k, none⟩) (Nat.le_refl _) _, by simp [World.setCell]; omega⟩
      case measure => simp [intOf]; omega
    · have hkl : k = l.length := by omega
      subst hkl
      have hcv2 := hr.back (P := Tryd.prog) (src := 43) (dst := 9) Tryd.underlying43 Tryd.underlying5 Tryd.underlying9 cap
      simp only [List.take_length, List.drop_length, List.append_nil, List.length_map] at hcv2
      go_wp2
      go_ret2
      exact ⟨rfl, hb⟩
set_option maxHeartbeats 1000000 in
theorem rTurn_cap (l : Str) (w : World) (hs : l.length ≤ 1000000) :
    Calls Tryd.prog 28 #[.string ⟨(l).toArray⟩, .int .i64 3] w fun e w' => e = .returned (.tuple #[.string ⟨(capB l).toArray⟩, .int .i64 0]) ∧ Below w.heap.size w w' := by
  obtain ⟨cap, w0, hcv, hrow, hb0, hsz⟩ := BRow.made (P := Tryd.prog) w (src := 9) (dst := 43) l Tryd.underlying9 Tryd.underlying43 Tryd.underlying5
  have HZ := Lib.hid hsz; clear hsz
  have hsz0 : w.heap.size < w0.heap.size := by have := HZ.out; omega
  cases l with
  | nil =>
    have hcv2 := hrow.back (P := Tryd.prog) (src := 43) (dst := 9) Tryd.underlying43 Tryd.underlying5 Tryd.underlying9 cap
    simp only [List.length_nil] at hcv hcv2
    go_enter Tryd.func28, Tryd.ntmps28
    go_wp2_with (fail)
    go_ret2
    exact ⟨rfl, hb0⟩
  | cons c r =>
    have hc := hrow.cell (j := 0) (c := c) rfl
    have hf := hrow.free (j := 0) (by simp)
    have h256 := u8_lt c
    have HS := hrow.set (j := 0) (upB c)
    have hcv2 := HS.back (P := Tryd.prog) (src := 43) (dst := 9) Tryd.underlying43 Tryd.underlying5 Tryd.underlying9 cap
    simp only [List.set_cons_zero, List.length_cons] at hcv2
    clear HS
    go_enter Tryd.func28, Tryd.ntmps28
    go_wp2_with (go_at_call 41; refine (rup_gen _ _ (by omega) (by omega)).mono ?_; rintro e w1 ⟨rfl, rfl⟩)
    go_ret2
    exact ⟨rfl, hb0.setCell (p := ⟨w.heap.size, 0, none⟩) (Nat.le_refl _) _⟩
def joinD (small : Bool) (i : Nat) (ws : List Str) : Str := if i = 0 then joinW small ws else (ws.drop i).flatMap (capW upB)
theorem joinD_cons (small : Bool) {i : Nat} {ws r : List Str} {d : UInt8} {ds : Str} (h : ws.drop i = (d :: ds) :: r) (hr : ws.drop (i + 1) = r) :
    joinD small i ws = ((if i = 0 ∧ small = true then lowB d else upB d) :: ds) ++ joinD small (i + 1) ws := by
  unfold joinD
  rw [if_neg (show ¬ i + 1 = 0 by omega), hr]
  by_cases h0 : i = 0
  · subst h0
    rw [List.drop_zero] at h
    rw [h, if_pos rfl]
    cases small <;> simp [joinW, capW]
  · rw [if_neg h0, h, if_neg (fun q => h0 q.1)]
    simp [capW]
def CmRel (small : Bool) (ws : List Str) (R : Str) (w1 : World) (o q : Value) (wr : World) : Prop :=
  ∃ (i : Nat) (acc : Str), i ≤ ws.length ∧ q = .int .i64 i ∧ o = .string ⟨(acc).toArray⟩ ∧ Below w1.heap.size w1 wr ∧ Hid (acc ++ joinD small i ws = R)
set_option maxHeartbeats 2000000 in
theorem rTurn_camel (l : Str) (w : World) (hs : l.length ≤ 1000000) :
    Calls Tryd.prog 28 #[.string ⟨(l).toArray⟩, .int .i64 4] w fun e w' => e = .returned (.tuple #[.string ⟨(joinL true false l []).toArray⟩, .int .i64 0]) ∧ Below w.heap.size w w' := by
  generalize hR : joinL true false l [] = R
  have HR := Lib.hid hR
  clear hR
  go_enter Tryd.func28, Tryd.ntmps28
  obtain ⟨cap0, w0, hcv0, _, hb0, _⟩ := BRow.made (P := Tryd.prog) w (src := 9) (dst := 43) l Tryd.underlying9 Tryd.underlying43 Tryd.underlying5
  have hz0 := hb0.size
  go_wp2_with (go_at_call 43; refine (rWords_any l _ hs).mono ?_)
  rintro e w1 ⟨a, cp, rfl, hown, hb1, hwl, hwx⟩
  have hbw1 : Below w.heap.size w w1 := hb0.trans (hb1.mono hz0)
  have hz1 := hbw1.size
  have HSl := Lib.hid (Sl.of_own hown)
  have HNE := Lib.hid (words_ne l false [] (by simp) (by simp))
  have HJ0 : Hid (([] : Str) ++ joinD true 0 (wordsL false l []) = R) := Lib.hid (by rw [← HR.out]; exact (words_join true l false [] (by simp) (by simp)).symm)
  have hRL : R.length ≤ 1000000 := by rw [← HR.out]; have := joinL_length true l false []; simp at this; omega
  generalize wordsL false l [] = ws at *
  have HWX := Lib.hid hwx
  clear hown hb1 hcv0 hb0 hz0 hwx HR
  go_wp2
  go_loopw [10, 11] (fun o q wr => CmRel true ws R w1 o q wr) (fun _ q _ => ws.length - (intOf q).toNat)
  case atStart => exact ⟨0, [], by omega, rfl, rfl, Below.refl _ _, HJ0⟩
  case round =>
    obtain ⟨i, acc, hik, rfl, rfl, hb, HF⟩ := hrel
    clear HJ0
    have hB := hb.size
    have hbb := hbw1.trans (hb.mono hz1)
    cases hd : ws.drop i with
    | nil =>
      have h2 : ws.length ≤ i := by simpa using hd
      have HE : Hid (acc = R) := Lib.hid (by
        rw [← HF.out]; unfold joinD
        by_cases h0 : i = 0
        · subst h0; rw [List.drop_zero] at hd; rw [hd]; simp [joinW]
        · rw [if_neg h0, hd]; simp)
      clear hd HF
      go_wp2
      go_ret2
      exact ⟨by rw [HE.out]; rfl, hbb⟩
    | cons y r =>
      obtain ⟨h2, h3, hr⟩ := ldrop_cons hd
      have hyne := HNE.out y (List.mem_of_getElem? h3)
      have hyl := HWX.out y (List.mem_of_getElem? h3)
      cases y with
      | nil => exact absurd rfl hyne
      | cons d ds =>
        have HE : Hid (acc ++ (((if i = 0 ∧ true = true then lowB d else upB d) :: ds) ++ joinD true (i + 1) ws) = R) := Lib.hid (by rw [← HF.out, joinD_cons true hd hr])
        have hal : acc.length + ds.length + 1 ≤ 1000000 := by
          have h := congrArg List.length HE.out
          simp only [List.length_append, List.length_cons] at h; omega
        obtain ⟨b, o, rfl, hbB, c0⟩ := (HSl.out.keep hb).str h3
        simp only [List.length_cons] at hyl
        clear hd HF hr h3 hyne
        rcases Nat.eq_zero_or_pos i with hi0 | hi0
        · have hi0' : ((i : Int) == 0) = true := by rw [beq_iff_eq]; omega
          have HE2 : Hid (acc ++ ((lowB d :: ds) ++ joinD true (i + 1) ws) = R) := Lib.hid (by rw [← HE.out, if_pos ⟨hi0, rfl⟩])
          clear hi0 HE
          obtain ⟨cap, w2, hcv, hrow, hb2, hsz⟩ := BRow.made (P := Tryd.prog) wr (src := 9) (dst := 43) (d :: ds) Tryd.underlying9 Tryd.underlying43 Tryd.underlying5
          have hc := hrow.cell (j := 0) (c := d) rfl
          have hf := hrow.free (j := 0) (by simp)
          have h256 := u8_lt d
          have HS := hrow.set (j := 0) (lowB d)
          have hcv2 := HS.back (P := Tryd.prog) (src := 43) (dst := 9) Tryd.underlying43 Tryd.underlying5 Tryd.underlying9 cap
          simp only [List.set_cons_zero, List.length_cons] at hcv hcv2
          have hsz2 : wr.heap.size < w2.heap.size := by omega
          clear HS hsz hrow
          go_wp2_with (go_at_call 42; refine (rdown_gen _ _ (by omega) (by omega)).mono ?_; rintro e w3 ⟨rfl, rfl⟩)
          go_roundw
          case rel => exact ⟨i + 1, acc ++ (lowB d :: ds), by omega, by go_num, by simp, hb.trans ((hb2.setCell (p := ⟨wr.heap.size, 0, none⟩) (Nat.le_refl _) _).mono hB), Lib.hid (by rw [← HE2.out]; simp)⟩
          case measure => simp [intOf]; omega
        · have hi0' : ((i : Int) == 0) = false := by rw [beq_eq_false_iff_ne]; omega
          have HE2 : Hid (acc ++ ((upB d :: ds) ++ joinD true (i + 1) ws) = R) := Lib.hid (by rw [← HE.out, if_neg (fun q => by omega)])
          clear hi0 HE
          obtain ⟨cap, w2, hcv, hrow, hb2, hsz⟩ := BRow.made (P := Tryd.prog) wr (src := 9) (dst := 43) (d :: ds) Tryd.underlying9 Tryd.underlying43 Tryd.underlying5
          have hc := hrow.cell (j := 0) (c := d) rfl
          have hf := hrow.free (j := 0) (by simp)
          have h256 := u8_lt d
          have HS := hrow.set (j := 0) (upB d)
          have hcv2 := HS.back (P := Tryd.prog) (src := 43) (dst := 9) Tryd.underlying43 Tryd.underlying5 Tryd.underlying9 cap
          simp only [List.set_cons_zero, List.length_cons] at hcv hcv2
          have hsz2 : wr.heap.size < w2.heap.size := by omega
          clear HS hsz hrow
          go_wp2_with (go_at_call 41; refine (rup_gen _ _ (by omega) (by omega)).mono ?_; rintro e w3 ⟨rfl, rfl⟩)
          go_roundw
          case rel => exact ⟨i + 1, acc ++ (upB d :: ds), by omega, by go_num, by simp, hb.trans ((hb2.setCell (p := ⟨wr.heap.size, 0, none⟩) (Nat.le_refl _) _).mono hB), Lib.hid (by rw [← HE2.out]; simp)⟩
          case measure => simp [intOf]; omega
set_option maxHeartbeats 2000000 in
theorem rTurn_pascal (l : Str) (w : World) (hs : l.length ≤ 1000000) :
    Calls Tryd.prog 28 #[.string ⟨(l).toArray⟩, .int .i64 5] w fun e w' => e = .returned (.tuple #[.string ⟨(joinL false false l []).toArray⟩, .int .i64 0]) ∧ Below w.heap.size w w' := by
  generalize hR : joinL false false l [] = R
  have HR := Lib.hid hR
  clear hR
  go_enter Tryd.func28, Tryd.ntmps28
  obtain ⟨cap0, w0, hcv0, _, hb0, _⟩ := BRow.made (P := Tryd.prog) w (src := 9) (dst := 43) l Tryd.underlying9 Tryd.underlying43 Tryd.underlying5
  have hz0 := hb0.size
  go_wp2_with (go_at_call 43; refine (rWords_any l _ hs).mono ?_)
  rintro e w1 ⟨a, cp, rfl, hown, hb1, hwl, hwx⟩
  have hbw1 : Below w.heap.size w w1 := hb0.trans (hb1.mono hz0)
  have hz1 := hbw1.size
  have HSl := Lib.hid (Sl.of_own hown)
  have HNE := Lib.hid (words_ne l false [] (by simp) (by simp))
  have HJ0 : Hid (([] : Str) ++ joinD false 0 (wordsL false l []) = R) := Lib.hid (by rw [← HR.out]; exact (words_join false l false [] (by simp) (by simp)).symm)
  have hRL : R.length ≤ 1000000 := by rw [← HR.out]; have := joinL_length false l false []; simp at this; omega
  generalize wordsL false l [] = ws at *
  have HWX := Lib.hid hwx
  clear hown hb1 hcv0 hb0 hz0 hwx HR
  go_wp2
  go_loopw [10, 11] (fun o q wr => CmRel false ws R w1 o q wr) (fun _ q _ => ws.length - (intOf q).toNat)
  case atStart => exact ⟨0, [], by omega, rfl, rfl, Below.refl _ _, HJ0⟩
  case round =>
    obtain ⟨i, acc, hik, rfl, rfl, hb, HF⟩ := hrel
    clear HJ0
    have hB := hb.size
    have hbb := hbw1.trans (hb.mono hz1)
    cases hd : ws.drop i with
    | nil =>
      have h2 : ws.length ≤ i := by simpa using hd
      have HE : Hid (acc = R) := Lib.hid (by
        rw [← HF.out]; unfold joinD
        by_cases h0 : i = 0
        · subst h0; rw [List.drop_zero] at hd; rw [hd]; simp [joinW]
        · rw [if_neg h0, hd]; simp)
      clear hd HF
      go_wp2
      go_ret2
      exact ⟨by rw [HE.out]; rfl, hbb⟩
    | cons y r =>
      obtain ⟨h2, h3, hr⟩ := ldrop_cons hd
      have hyne := HNE.out y (List.mem_of_getElem? h3)
      have hyl := HWX.out y (List.mem_of_getElem? h3)
      cases y with
      | nil => exact absurd rfl hyne
      | cons d ds =>
        have HE : Hid (acc ++ (((if i = 0 ∧ false = true then lowB d else upB d) :: ds) ++ joinD false (i + 1) ws) = R) := Lib.hid (by rw [← HF.out, joinD_cons false hd hr])
        have hal : acc.length + ds.length + 1 ≤ 1000000 := by
          have h := congrArg List.length HE.out
          simp only [List.length_append, List.length_cons] at h; omega
        obtain ⟨b, o, rfl, hbB, c0⟩ := (HSl.out.keep hb).str h3
        simp only [List.length_cons] at hyl
        clear hd HF hr h3 hyne
        have HE2 : Hid (acc ++ ((upB d :: ds) ++ joinD false (i + 1) ws) = R) := Lib.hid (by rw [← HE.out, if_neg (fun q => by simp at q)])
        clear HE
        rcases Nat.eq_zero_or_pos i with hi0 | hi0
        · have hi0' : ((i : Int) == 0) = true := by rw [beq_iff_eq]; omega
          clear hi0
          obtain ⟨cap, w2, hcv, hrow, hb2, hsz⟩ := BRow.made (P := Tryd.prog) wr (src := 9) (dst := 43) (d :: ds) Tryd.underlying9 Tryd.underlying43 Tryd.underlying5
          have hc := hrow.cell (j := 0) (c := d) rfl
          have hf := hrow.free (j := 0) (by simp)
          have h256 := u8_lt d
          have HS := hrow.set (j := 0) (upB d)
          have hcv2 := HS.back (P := Tryd.prog) (src := 43) (dst := 9) Tryd.underlying43 Tryd.underlying5 Tryd.underlying9 cap
          simp only [List.set_cons_zero, List.length_cons] at hcv hcv2
          have hsz2 : wr.heap.size < w2.heap.size := by omega
          clear HS hsz hrow
          go_wp2_with (go_at_call 41; refine (rup_gen _ _ (by omega) (by omega)).mono ?_; rintro e w3 ⟨rfl, rfl⟩)
          go_roundw
          case rel => exact ⟨i + 1, acc ++ (upB d :: ds), by omega, by go_num, by simp, hb.trans ((hb2.setCell (p := ⟨wr.heap.size, 0, none⟩) (Nat.le_refl _) _).mono hB), Lib.hid (by rw [← HE2.out]; simp)⟩
          case measure => simp [intOf]; omega
        · have hi0' : ((i : Int) == 0) = false := by rw [beq_eq_false_iff_ne]; omega
          clear hi0
          obtain ⟨cap, w2, hcv, hrow, hb2, hsz⟩ := BRow.made (P := Tryd.prog) wr (src := 9) (dst := 43) (d :: ds) Tryd.underlying9 Tryd.underlying43 Tryd.underlying5
          have hc := hrow.cell (j := 0) (c := d) rfl
          have hf := hrow.free (j := 0) (by simp)
          have h256 := u8_lt d
          have HS := hrow.set (j := 0) (upB d)
          have hcv2 := HS.back (P := Tryd.prog) (src := 43) (dst := 9) Tryd.underlying43 Tryd.underlying5 Tryd.underlying9 cap
          simp only [List.set_cons_zero, List.length_cons] at hcv hcv2
          have hsz2 : wr.heap.size < w2.heap.size := by omega
          clear HS hsz hrow
          go_wp2_with (go_at_call 41; refine (rup_gen _ _ (by omega) (by omega)).mono ?_; rintro e w3 ⟨rfl, rfl⟩)
          go_roundw
          case rel => exact ⟨i + 1, acc ++ (upB d :: ds), by omega, by go_num, by simp, hb.trans ((hb2.setCell (p := ⟨wr.heap.size, 0, none⟩) (Nat.le_refl _) _).mono hB), Lib.hid (by rw [← HE2.out]; simp)⟩
          case measure => simp [intOf]; omega
theorem rTurn_any (l : Str) (way : Int) (w : World) (hs : l.length ≤ 1000000) :
    Calls Tryd.prog 28 #[.string ⟨(l).toArray⟩, .int .i64 way] w fun e w' => e = .returned (.tuple #[.string ⟨((turn l way).1).toArray⟩, .int .i64 (turn l way).2]) ∧ Below w.heap.size w w' := by
  by_cases h1 : way = 1
  · subst h1; exact rTurn_up l w hs
  by_cases h2 : way = 2
  · subst h2; exact rTurn_down l w hs
  by_cases h3 : way = 3
  · subst h3; exact rTurn_cap l w hs
  by_cases h4 : way = 4
  · subst h4; exact rTurn_camel l w hs
  by_cases h5 : way = 5
  · subst h5; exact rTurn_pascal l w hs
  obtain ⟨cap, w0, hcv, hrow, hb0, hsz⟩ := BRow.made (P := Tryd.prog) w (src := 9) (dst := 43) l Tryd.underlying9 Tryd.underlying43 Tryd.underlying5
  have HZ := Lib.hid hsz; clear hsz
  have hT : turn l way = ([], 2) := by unfold turn; rw [if_neg h1, if_neg h2, if_neg h3, if_neg h4, if_neg h5]
  rw [hT]
  have e1 : (way == 1) = false := by simpa using h1
  have e2 : (way == 2) = false := by simpa using h2
  have e3 : (way == 3) = false := by simpa using h3
  have e4 : (way == 4) = false := by simpa using h4
  have e5 : (way == 5) = false := by simpa using h5
  clear h1 h2 h3 h4 h5 hT
  go_enter Tryd.func28, Tryd.ntmps28
  go_wp2_with (fail)
  go_ret2
  exact ⟨rfl, hb0⟩
end Go.Proofs.YtlomkfennnmkdaaDoor
