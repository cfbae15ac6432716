/- walk of fmts.part -/
import Derived.Test.YtlomkfennnmkdaaDoorT9
namespace Go.Proofs.YtlomkfennnmkdaaDoor
open Go.RowKit
theorem number_some {l r : Str} {i : Int} {n : Nat} (w : World) (h0 : 0 ≤ i) (h1 : i ≤ 1000000) (hs : l.length ≤ 1000000) (hN : numR (l.drop i.toNat) = some (n, r)) :
    Calls Tryd.prog 44 #[.string ⟨(l).toArray⟩, .int .i64 i] w fun e w' => w = w' ∧ n < 10000 ∧ ∃ j : Nat, i < j ∧ j ≤ l.length ∧ l.drop j = r ∧ e = .returned (.tuple #[.int .i64 n, .int .i64 j, .bool true]) := by
  refine (number_any l i w h0 (by omega) (by omega)).mono ?_
  rintro e w1 ⟨hw, hp⟩
  rw [hN] at hp
  exact ⟨hw, hp⟩
theorem number_none {l : Str} {i : Int} (w : World) (h0 : 0 ≤ i) (h1 : i ≤ 1000000) (hs : l.length ≤ 1000000) (hN : numR (l.drop i.toNat) = none) :
    Calls Tryd.prog 44 #[.string ⟨(l).toArray⟩, .int .i64 i] w fun e w' => w = w' ∧ e = .returned (.tuple #[.int .i64 0, .int .i64 i, .bool false]) := by
  refine (number_any l i w h0 (by omega) (by omega)).mono ?_
  rintro e w1 ⟨hw, hp⟩
  rw [hN] at hp
  exact ⟨hw, hp⟩
theorem braced_some {l r : Str} {i n : Nat} {f : Fm} (w : World) (h1 : i ≤ 900000) (hs : l.length ≤ 900000) (hB : bracedR (l.drop i) n = some (f, r)) :
    Calls Tryd.prog 46 #[.string ⟨(l).toArray⟩, .int .i64 i, .int .i64 n] w fun e w' => Below w.heap.size w w' ∧ f.thn.length ≤ l.length ∧ f.els.length ≤ l.length ∧ ∃ j : Nat, i < j ∧ j ≤ l.length ∧ l.drop j = r ∧ e = .returned (.tuple #[.agg #[.int .i64 (f).kind, .int .i64 (f).n, .int .i64 (f).cse, .string ⟨((f).thn).toArray⟩, .string ⟨((f).els).toArray⟩], .int .i64 j, .bool true]) := by
  refine (braced_any l i n w h1 hs).mono ?_
  rintro e w1 ⟨hb, hp⟩
  rw [hB] at hp
  exact ⟨hb, hp⟩
theorem braced_none {l : Str} {i n : Nat} (w : World) (h1 : i ≤ 900000) (hs : l.length ≤ 900000) (hB : bracedR (l.drop i) n = none) :
    Calls Tryd.prog 46 #[.string ⟨(l).toArray⟩, .int .i64 i, .int .i64 n] w fun e w' => Below w.heap.size w w' ∧ e = .returned (.tuple #[.agg #[.int .i64 0, .int .i64 0, .int .i64 0, .string ⟨#[]⟩, .string ⟨#[]⟩], .int .i64 0, .bool false]) := by
  refine (braced_any l i n w h1 hs).mono ?_
  rintro e w1 ⟨hb, hp⟩
  rw [hB] at hp
  exact ⟨hb, hp⟩
set_option maxHeartbeats 4000000 in
theorem part_any (l : Str) (i : Nat) (w : World) (h1 : i ≤ 800000) (hs : l.length ≤ 800000) :
    Calls Tryd.prog 30 #[.string ⟨(l).toArray⟩, .int .i64 i] w fun e w' => Below w.heap.size w w' ∧ PartPost l i (partR (l.drop i)) e := by
  generalize hR : partR (l.drop i) = R
  have HR := Lib.hid hR
  clear hR
  cases hN : numR (l.drop i) with
  | some p =>
    obtain ⟨n, r⟩ := p
    have HN : Hid (numR (l.drop (i : Int).toNat) = some (n, r)) := Lib.hid (by rw [Int.toNat_natCast]; exact hN)
    have HE : Hid (R = some (⟨1, n, 0, [], []⟩, r)) := Lib.hid (by rw [← HR.out]; simp [partR, hN])
    clear hN HR
    go_enter Tryd.func30, Tryd.ntmps30
    go_wp2_with (go_at_call 44; refine (number_some _ (by omega) (by omega) (by omega) HN.out).mono ?_; rintro e w1 ⟨rfl, hn, j, hj1, hj2, hj3, rfl⟩; have HJ := Lib.hid hj3; clear hj3)
    refine bodyPost_ret (v := .tuple #[.agg #[.int .i64 1, .int .i64 n, .int .i64 0, .string ⟨([]).toArray⟩, .string ⟨([]).toArray⟩], .int .i64 j, .bool true]) (by simp [results, Tryd.results30, go_sem]) rfl ⟨?_, ?_⟩
    · (repeat (first | with_reducible exact Below.refl _ _ | with_reducible assumption | (refine Below.setCell ?_ (by simp) _) | (refine Below.alloc ?_ (by first | (simp; done) | (simp; omega)) _) | (refine Below.drew ?_)))
    · rw [HE.out]; exact ⟨by simp, by simp, j, by omega, hj2, HJ.out, by simp⟩
  | none =>
    have HN : Hid (numR (l.drop (i : Int).toNat) = none) := Lib.hid (by rw [Int.toNat_natCast]; exact hN)
    have HP : Hid (R = partB (l.drop i)) := Lib.hid (by
      rw [← HR.out]; simp [partR, hN])
    clear hN HR
    cases hd : l.drop i with
    | nil =>
      have h2 := drop_nil hd
      have HE : Hid (R = none) := Lib.hid (by rw [HP.out, hd]; rfl)
      have e1 : List.isPrefixOf [123] (List.drop i l) = false := by rw [hd]; rfl
      clear hd HP
      go_enter Tryd.func30, Tryd.ntmps30
      go_wp2_with (first | (go_at_call 45; refine (has_any _ _ _ _ (by omega) (by omega) (by simp)).mono ?_; rintro e w1 ⟨rfl, rfl⟩) | (go_at_call 44; refine (number_none _ (by omega) (by omega) (by omega) HN.out).mono ?_; rintro e w1 ⟨rfl, rfl⟩))
      refine bodyPost_ret (v := .tuple #[.agg #[.int .i64 0, .int .i64 0, .int .i64 0, .string ⟨#[]⟩, .string ⟨#[]⟩], .int .i64 0, .bool false]) (by simp [results, Tryd.results30, go_sem]) rfl ⟨?_, by rw [HE.out]; rfl⟩
      (repeat (first | with_reducible exact Below.refl _ _ | with_reducible assumption | (refine Below.setCell ?_ (by simp) _) | (refine Below.alloc ?_ (by first | (simp; done) | (simp; omega)) _) | (refine Below.drew ?_)))
    | cons c r1 =>
      obtain ⟨h2, h3, hr⟩ := drop_cons hd
      have Hr := Lib.hid hr
      clear hr h3
      by_cases hc : c.toNat = 123
      · have HP1 : Hid (R = match numR r1 with | none => none | some p => partC p.1 p.2) := Lib.hid (by rw [HP.out, hd]; exact if_pos hc)
        have e1 : List.isPrefixOf [123] (List.drop i l) = true := by rw [hd, pre1]; simp; omega
        clear hc hd HP
        cases hM : numR r1 with
        | none =>
          have HM : Hid (numR (l.drop ((i : Int) + 1).toNat) = none) := Lib.hid (by rw [show ((i : Int) + 1).toNat = i + 1 by omega, Hr.out]; exact hM)
          have HE : Hid (R = none) := Lib.hid (by rw [HP1.out, hM])
          clear hM HP1
          go_enter Tryd.func30, Tryd.ntmps30
          go_wp2_with (go_at_call 44; refine (number_none _ (by omega) (by omega) (by omega) HN.out).mono ?_)
          rintro e w1 ⟨rfl, rfl⟩
          go_wp2_with (first | (go_at_call 45; refine (has_any _ _ _ _ (by omega) (by omega) (by simp)).mono ?_; rintro e w1 ⟨rfl, rfl⟩) | (go_at_call 44; refine (number_none _ (by omega) (by omega) (by omega) HM.out).mono ?_; rintro e w1 ⟨rfl, rfl⟩))
          refine bodyPost_ret (v := .tuple #[.agg #[.int .i64 0, .int .i64 0, .int .i64 0, .string ⟨#[]⟩, .string ⟨#[]⟩], .int .i64 0, .bool false]) (by simp [results, Tryd.results30, go_sem]) rfl ⟨?_, by rw [HE.out]; rfl⟩
          (repeat (first | with_reducible exact Below.refl _ _ | with_reducible assumption | (refine Below.setCell ?_ (by simp) _) | (refine Below.alloc ?_ (by first | (simp; done) | (simp; omega)) _) | (refine Below.drew ?_)))
        | some p =>
          obtain ⟨n, r2⟩ := p
          have HM : Hid (numR (l.drop ((i : Int) + 1).toNat) = some (n, r2)) := Lib.hid (by rw [show ((i : Int) + 1).toNat = i + 1 by omega, Hr.out]; exact hM)
          have HP2 : Hid (R = partC n r2) := Lib.hid (by rw [HP1.out, hM])
          clear hM HP1
          go_enter Tryd.func30, Tryd.ntmps30
          go_wp2_with (go_at_call 44; refine (number_none _ (by omega) (by omega) (by omega) HN.out).mono ?_)
          rintro e w1 ⟨rfl, rfl⟩
          go_wp2_with (first | (go_at_call 45; refine (has_any _ _ _ _ (by omega) (by omega) (by simp)).mono ?_; rintro e w1 ⟨rfl, rfl⟩) | (go_at_call 44; refine (number_some _ (by omega) (by omega) (by omega) HM.out).mono ?_))
          rintro e w1 ⟨rfl, hn, j, hj1, hj2, hj3, rfl⟩
          cases r2 with
          | nil =>
            have HE : Hid (R = none) := HP2
            have e2 : List.isPrefixOf [125] (List.drop j l) = false := by rw [hj3]; rfl
            have e3 : List.isPrefixOf [58] (List.drop j l) = false := by rw [hj3]; rfl
            clear hj3
            go_wp2_with (go_at_call 45; refine (has_any _ _ _ _ (by omega) (by omega) (by simp)).mono ?_; rintro e w1 ⟨rfl, rfl⟩)
            refine bodyPost_ret (v := .tuple #[.agg #[.int .i64 0, .int .i64 0, .int .i64 0, .string ⟨#[]⟩, .string ⟨#[]⟩], .int .i64 0, .bool false]) (by simp [results, Tryd.results30, go_sem]) rfl ⟨?_, by rw [HE.out]; rfl⟩
            (repeat (first | with_reducible exact Below.refl _ _ | with_reducible assumption | (refine Below.setCell ?_ (by simp) _) | (refine Below.alloc ?_ (by first | (simp; done) | (simp; omega)) _) | (refine Below.drew ?_)))
          | cons d r3 =>
            have HJ := Lib.hid (drop_cons hj3).2.2
            have hjl := (drop_cons hj3).1
            by_cases hd1 : d.toNat = 125
            · have HE : Hid (R = some (⟨1, n, 0, [], []⟩, r3)) := Lib.hid (by rw [HP2.out]; exact if_pos hd1)
              have e2 : List.isPrefixOf [125] (List.drop j l) = true := by rw [hj3, pre1]; simp; omega
              clear hj3 hd1
              go_wp2_with (go_at_call 45; refine (has_any _ _ _ _ (by omega) (by omega) (by simp)).mono ?_; rintro e w1 ⟨rfl, rfl⟩)
              refine bodyPost_ret (v := .tuple #[.agg #[.int .i64 1, .int .i64 n, .int .i64 0, .string ⟨([]).toArray⟩, .string ⟨([]).toArray⟩], .int .i64 (j + 1), .bool true]) (by simp [results, Tryd.results30, go_sem]) rfl ⟨?_, ?_⟩
              · (repeat (first | with_reducible exact Below.refl _ _ | with_reducible assumption | (refine Below.setCell ?_ (by simp) _) | (refine Below.alloc ?_ (by first | (simp; done) | (simp; omega)) _) | (refine Below.drew ?_)))
              · rw [HE.out]; exact ⟨by simp, by simp, j + 1, by omega, by omega, HJ.out, by simp⟩
            · have e2 : List.isPrefixOf [125] (List.drop j l) = false := by rw [hj3, pre1]; simp; omega
              by_cases hd2 : d.toNat = 58
              · have HP3 : Hid (R = bracedR r3 n) := Lib.hid (by rw [HP2.out]; exact (if_neg hd1).trans (if_pos hd2))
                have e3 : List.isPrefixOf [58] (List.drop j l) = true := by rw [hj3, pre1]; simp; omega
                clear hj3 hd1 hd2
                cases hB : bracedR r3 n with
                | none =>
                  have HE : Hid (R = none) := Lib.hid (by rw [HP3.out, hB])
                  have HB : Hid (bracedR (l.drop (j + 1)) n = none) := Lib.hid (by rw [HJ.out]; exact hB)
                  clear hB
                  have ej : ((j : Int) + 1) = ((j + 1 : Nat) : Int) := by omega
                  have EJ := Lib.hid ej; clear ej
                  go_wp2_with (first | (go_at_call 45; refine (has_any _ _ _ _ (by omega) (by omega) (by simp)).mono ?_; rintro e w1 ⟨rfl, rfl⟩) | (go_at_call 46; rw [EJ.out]; refine (braced_none _ (by omega) (by omega) HB.out).mono ?_; rintro e w1 ⟨hb1, rfl⟩; obtain ⟨hc1, hf1⟩ := bcell hb1; have z0 : w1.cell? ⟨w.heap.size, 0, none⟩ = some (.int .i64 0) := (by rw [hc1 _ _ (by first | (simp; done) | (simp; omega))]; simp); have z1 : w1.cell? ⟨w.heap.size, 1, none⟩ = some (.int .i64 0) := (by rw [hc1 _ _ (by first | (simp; done) | (simp; omega))]; simp); have z2 : w1.cell? ⟨w.heap.size, 2, none⟩ = some (.int .i64 0) := (by rw [hc1 _ _ (by first | (simp; done) | (simp; omega))]; simp); have z3 : w1.cell? ⟨w.heap.size, 3, none⟩ = some (.string ⟨#[]⟩) := (by rw [hc1 _ _ (by first | (simp; done) | (simp; omega))]; simp); have z4 : w1.cell? ⟨w.heap.size, 4, none⟩ = some (.string ⟨#[]⟩) := (by rw [hc1 _ _ (by first | (simp; done) | (simp; omega))]; simp); have hbw : Below w.heap.size w w1 := ((Below.refl w.heap.size w).alloc (Nat.le_refl _) _).trans (hb1.mono (by simp))))
                  refine bodyPost_ret (v := .tuple #[.agg #[.int .i64 0, .int .i64 0, .int .i64 0, .string ⟨#[]⟩, .string ⟨#[]⟩], .int .i64 0, .bool false]) (by simp [results, Tryd.results30, go_sem, z0, z1, z2, z3, z4]) rfl ⟨?_, by rw [HE.out]; rfl⟩
                  (repeat (first | with_reducible exact Below.refl _ _ | with_reducible assumption | (refine Below.setCell ?_ (by simp) _) | (refine Below.alloc ?_ (by first | (simp; done) | (simp; omega)) _) | (refine Below.drew ?_)))
                | some q =>
                  obtain ⟨⟨fk, fn, fc, ft, fe⟩, r4⟩ := q
                  have HE : Hid (R = some (⟨fk, fn, fc, ft, fe⟩, r4)) := Lib.hid (by rw [HP3.out, hB])
                  have HB : Hid (bracedR (l.drop (j + 1)) n = some (⟨fk, fn, fc, ft, fe⟩, r4)) := Lib.hid (by rw [HJ.out]; exact hB)
                  clear hB
                  have ej : ((j : Int) + 1) = ((j + 1 : Nat) : Int) := by omega
                  have EJ := Lib.hid ej; clear ej
                  go_wp2_with (first | (go_at_call 45; refine (has_any _ _ _ _ (by omega) (by omega) (by simp)).mono ?_; rintro e w1 ⟨rfl, rfl⟩) | (go_at_call 46; rw [EJ.out]; refine (braced_some _ (by omega) (by omega) HB.out).mono ?_; rintro e w1 ⟨hb1, ht1, ht2, k, hk1, hk2, hk3, rfl⟩; obtain ⟨hc1, hf1⟩ := bcell hb1; have z0 : w1.cell? ⟨w.heap.size, 0, none⟩ = some (.int .i64 0) := (by rw [hc1 _ _ (by first | (simp; done) | (simp; omega))]; simp); have z1 : w1.cell? ⟨w.heap.size, 1, none⟩ = some (.int .i64 0) := (by rw [hc1 _ _ (by first | (simp; done) | (simp; omega))]; simp); have z2 : w1.cell? ⟨w.heap.size, 2, none⟩ = some (.int .i64 0) := (by rw [hc1 _ _ (by first | (simp; done) | (simp; omega))]; simp); have z3 : w1.cell? ⟨w.heap.size, 3, none⟩ = some (.string ⟨#[]⟩) := (by rw [hc1 _ _ (by first | (simp; done) | (simp; omega))]; simp); have z4 : w1.cell? ⟨w.heap.size, 4, none⟩ = some (.string ⟨#[]⟩) := (by rw [hc1 _ _ (by first | (simp; done) | (simp; omega))]; simp); have hbw : Below w.heap.size w w1 := ((Below.refl w.heap.size w).alloc (Nat.le_refl _) _).trans (hb1.mono (by simp)); have HK3 := Lib.hid hk3; clear hk3))
                  refine bodyPost_ret (v := .tuple #[.agg #[.int .i64 fk, .int .i64 fn, .int .i64 fc, .string ⟨(ft).toArray⟩, .string ⟨(fe).toArray⟩], .int .i64 k, .bool true]) (by simp [results, Tryd.results30, go_sem, z0, z1, z2, z3, z4]) rfl ⟨?_, ?_⟩
                  · (repeat (first | with_reducible exact Below.refl _ _ | with_reducible assumption | (refine Below.setCell ?_ (by simp) _) | (refine Below.alloc ?_ (by first | (simp; done) | (simp; omega)) _) | (refine Below.drew ?_)))
                  · rw [HE.out]; exact ⟨ht1, ht2, k, by omega, hk2, HK3.out, by simp⟩
              · have HE : Hid (R = none) := Lib.hid (by rw [HP2.out]; exact (if_neg hd1).trans (if_neg hd2))
                have e3 : List.isPrefixOf [58] (List.drop j l) = false := by rw [hj3, pre1]; simp; omega
                clear hj3 hd1 hd2
                go_wp2_with (go_at_call 45; refine (has_any _ _ _ _ (by omega) (by omega) (by simp)).mono ?_; rintro e w1 ⟨rfl, rfl⟩)
                refine bodyPost_ret (v := .tuple #[.agg #[.int .i64 0, .int .i64 0, .int .i64 0, .string ⟨#[]⟩, .string ⟨#[]⟩], .int .i64 0, .bool false]) (by simp [results, Tryd.results30, go_sem]) rfl ⟨?_, by rw [HE.out]; rfl⟩
                (repeat (first | with_reducible exact Below.refl _ _ | with_reducible assumption | (refine Below.setCell ?_ (by simp) _) | (refine Below.alloc ?_ (by first | (simp; done) | (simp; omega)) _) | (refine Below.drew ?_)))
      · have HE : Hid (R = none) := Lib.hid (by rw [HP.out, hd]; exact if_neg hc)
        have e1 : List.isPrefixOf [123] (List.drop i l) = false := by rw [hd, pre1]; simp; omega
        clear hc hd HP
        go_enter Tryd.func30, Tryd.ntmps30
        go_wp2_with (first | (go_at_call 45; refine (has_any _ _ _ _ (by omega) (by omega) (by simp)).mono ?_; rintro e w1 ⟨rfl, rfl⟩) | (go_at_call 44; refine (number_none _ (by omega) (by omega) (by omega) HN.out).mono ?_; rintro e w1 ⟨rfl, rfl⟩))
        refine bodyPost_ret (v := .tuple #[.agg #[.int .i64 0, .int .i64 0, .int .i64 0, .string ⟨#[]⟩, .string ⟨#[]⟩], .int .i64 0, .bool false]) (by simp [results, Tryd.results30, go_sem]) rfl ⟨?_, by rw [HE.out]; rfl⟩
        (repeat (first | with_reducible exact Below.refl _ _ | with_reducible assumption | (refine Below.setCell ?_ (by simp) _) | (refine Below.alloc ?_ (by first | (simp; done) | (simp; omega)) _) | (refine Below.drew ?_)))
end Go.Proofs.YtlomkfennnmkdaaDoor
