/- walks of small functions of fmts -/
import Derived.Test.YtlomkfennnmkdaaDoorFmtM
import Derived.Test.YtlomkfennnmkdaaDoorT0
namespace Go.Proofs.YtlomkfennnmkdaaDoor
open Go.RowKit
theorem pre_eq (l p : Str) : p.isPrefixOf l = (List.take p.length l == p) := by
  rw [Bool.eq_iff_iff, List.isPrefixOf_iff_prefix, beq_iff_eq, List.prefix_iff_eq_take]
  exact ⟨fun h => h.symm, fun h => h.symm⟩
theorem has_any (l p : Str) (i : Int) (w : World) (h0 : 0 ≤ i) (hs : l.length ≤ 100000000) (hp : p.length ≤ 100000000) :
    Calls Tryd.prog 45 #[.string ⟨(l).toArray⟩, .int .i64 i, .string ⟨(p).toArray⟩] w fun e w' => e = .returned (.bool (p.isPrefixOf (l.drop i.toNat))) ∧ w = w' := by
  obtain ⟨n, rfl⟩ := Int.eq_ofNat_of_zero_le h0
  rw [Int.toNat_natCast]
  generalize hR : List.isPrefixOf p (List.drop n l) = R
  have HR := Lib.hid hR
  clear hR
  go_enter Tryd.func45, Tryd.ntmps45
  go_wp2
  · rename_i h1 h2
    go_ret; refine ⟨?_, rfl⟩; rw [← HR.out, List.drop_of_length_le (by omega), h2]; rfl
  · rename_i h1 h2
    go_ret; refine ⟨?_, rfl⟩; rw [← HR.out, List.drop_of_length_le (by omega)]; cases p <;> simp_all
  · go_ret; refine ⟨?_, rfl⟩; rw [← HR.out, pre_eq]; simp
  · rename_i h1 h2
    go_ret; refine ⟨?_, rfl⟩; rw [← HR.out, pre_eq]
    have : (List.take p.length (List.drop n l)) ≠ p := fun h => by
      have := congrArg List.length h; simp at this; omega
    simp [this]
theorem stands_any (l p : Str) (i : Int) (w : World) (h0 : 0 ≤ i) (h1 : i ≤ 100000000) (_hs : l.length ≤ 100000000) (_hp : p.length ≤ 100000000) :
    Calls Tryd.prog 31 #[.string ⟨(l).toArray⟩, .int .i64 i, .string ⟨(p).toArray⟩] w fun e w' => e = .returned (.bool (stands (l.drop (i.toNat + 1)) p)) ∧ w = w' := by
  obtain ⟨n, rfl⟩ := Int.eq_ofNat_of_zero_le h0
  rw [Int.toNat_natCast]
  cases hd : l.drop (n + 1) with
  | nil =>
    have h2 := drop_nil hd
    clear hd
    go_enter Tryd.func31, Tryd.ntmps31
    go_wp2
    go_ret
    exact ⟨rfl, rfl⟩
  | cons c r =>
    obtain ⟨h2, h3, _⟩ := drop_cons hd
    clear hd
    go_enter Tryd.func31, Tryd.ntmps31
    go_wp2_with (go_at_call 33; refine (strings_IndexByte _ _ _).mono ?_; rintro e w1 ⟨rfl, rfl⟩)
    go_ret
    refine ⟨?_, rfl⟩
    simp [stands, idx_dec]
def NumPost (l : Str) (i : Int) (R : Option (Nat × Str)) (e : Ending) : Prop :=
  match R with
  | none => e = .returned (.tuple #[.int .i64 0, .int .i64 i, .bool false])
  | some (n, r) => n < 10000 ∧ ∃ j : Nat, i < j ∧ j ≤ l.length ∧ l.drop j = r ∧ e = .returned (.tuple #[.int .i64 n, .int .i64 j, .bool true])
theorem number_any (l : Str) (i : Int) (w : World) (h0 : 0 ≤ i) (h1 : i ≤ 100000000) (hs : l.length ≤ 100000000) :
    Calls Tryd.prog 44 #[.string ⟨(l).toArray⟩, .int .i64 i] w fun e w' => w = w' ∧ NumPost l i (numR (l.drop i.toNat)) e := by
  obtain ⟨i, rfl⟩ := Int.eq_ofNat_of_zero_le h0
  rw [Int.toNat_natCast]
  generalize hR : numR (l.drop i) = R
  have HR : Hid (numL (l.drop (i + 0)) 0 0 = R) := Lib.hid hR
  clear hR
  go_enter Tryd.func44, Tryd.ntmps44
  go_wp2
  go_loop [7, 8] (fun n q => ∃ k m : Nat, k ≤ 4 ∧ (k = 0 ∨ i + k ≤ l.length) ∧ m < 10 ^ k ∧ q = .int .i64 ((i + k : Nat) : Int) ∧ n = .int .i64 (m : Int) ∧ Hid (numL (l.drop (i + k)) k m = R)) (fun _ q => l.length - (intOf q).toNat)
  case atStart => exact ⟨0, 0, by omega, by omega, by omega, by simp, rfl, HR⟩
  case round =>
    obtain ⟨k, m, hk, hik, hm, rfl, rfl, HF⟩ := hrel
    clear HR
    have hm4 : m < 10000 := Nat.lt_of_lt_of_le hm (Nat.pow_le_pow_right (by omega) hk)
    have Hm := Lib.hid hm; clear hm
    cases hd : l.drop (i + k) with
    | nil =>
      have h2 := drop_nil hd
      have HF' : Hid (numL [] k m = R) := Lib.hid (by rw [← hd]; exact HF.out)
      clear hd HF
      go_wp2
      go_ret3
      refine ⟨rfl, ?_⟩
      rw [← HF'.out]; unfold numL
      by_cases h0k : 0 < k
      · rw [if_pos h0k]; exact ⟨hm4, i + k, by omega, by omega, List.drop_of_length_le h2, by simp; omega⟩
      · have hk0 : k = 0 := by omega
        subst hk0
        have := Hm.out
        rw [if_neg h0k]; unfold NumPost; simp; omega
    | cons c r =>
      obtain ⟨h2, h3, hr⟩ := drop_cons hd
      have HF' : Hid (numL (c :: r) k m = R) := Lib.hid (by rw [← hd]; exact HF.out)
      have Hr := Lib.hid hr
      clear hd HF hr
      go_wp2
      · rename_i g1 g2
        go_ret3
        refine ⟨rfl, ?_⟩
        have hk4 : k = 4 := by simp at g2; omega
        rw [← HF'.out]; unfold numL
        rw [if_pos (by omega), if_pos hk4]; unfold NumPost; simp
      · rename_i g1 g2
        go_round
        have hk4 : ¬ k = 4 := by simp at g2; omega
        case rel =>
          refine ⟨k + 1, 10 * m + (c.toNat - 48), by omega, by omega, ?_, by go_num, ?_, ?_⟩
          · have := Hm.out; rw [Nat.pow_succ]; omega
          · congr 1; omega
          · refine Lib.hid ?_
            rw [← HF'.out, show i + (k + 1) = i + k + 1 from rfl, Hr.out]
            conv => rhs; unfold numL
            rw [if_pos (by omega), if_neg hk4]
        case measure => simp [intOf]; omega
      all_goals
        go_ret3
        refine ⟨rfl, ?_⟩
        rw [← HF'.out]; unfold numL
        rw [if_neg (by omega)]
        by_cases h0k : 0 < k
        · rw [if_pos h0k]; exact ⟨hm4, i + k, by omega, by omega, by rw [List.drop_eq_getElem_cons h2, h3, Hr.out], by simp; omega⟩
        · have hk0 : k = 0 := by omega
          subst hk0
          have := Hm.out
          rw [if_neg h0k]; unfold NumPost; simp; omega
end Go.Proofs.YtlomkfennnmkdaaDoor
