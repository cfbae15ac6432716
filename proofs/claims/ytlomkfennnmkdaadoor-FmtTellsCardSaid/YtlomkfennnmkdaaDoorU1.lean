/- walks of the references: gimletref17 -/
import Derived.Test.YtlomkfennnmkdaaDoorT5
import Derived.Test.YtlomkfennnmkdaaDoorMem
import Derived.Laws.OwnMore
import Derived.Deep.AppendLies
namespace Go.Proofs.YtlomkfennnmkdaaDoor
open Go.RowKit
theorem rup_any (c : UInt8) (w : World) : Calls Tryd.prog 41 #[.int .u8 c.toNat] w fun e w' => e = .returned (.int .u8 (upB c).toNat) ∧ w = w' := by
  obtain ⟨R, hR⟩ : ∃ R : Nat, R = (upB c).toNat := ⟨_, rfl⟩
  rw [← hR]
  rw [upB_nat] at hR
  have HR := Lib.hid hR; clear hR
  have h256 := u8_lt c
  go_enter Tryd.func41, Tryd.ntmps41
  go_wp2
  all_goals
    go_ret
    refine ⟨?_, rfl⟩
    simp; rw [HR.out]; first | (rw [if_pos (by omega)]; omega) | (rw [if_neg (by omega)])
theorem rdown_any (c : UInt8) (w : World) : Calls Tryd.prog 42 #[.int .u8 c.toNat] w fun e w' => e = .returned (.int .u8 (lowB c).toNat) ∧ w = w' := by
  obtain ⟨R, hR⟩ : ∃ R : Nat, R = (lowB c).toNat := ⟨_, rfl⟩
  rw [← hR]
  rw [lowB_nat] at hR
  have HR := Lib.hid hR; clear hR
  have h256 := u8_lt c
  go_enter Tryd.func42, Tryd.ntmps42
  go_wp2
  all_goals
    go_ret
    refine ⟨?_, rfl⟩
    simp; rw [HR.out]; first | (rw [if_pos (by omega)]; omega) | (rw [if_neg (by omega)])
def letB (c : UInt8) : Bool := decide ((65 ≤ c.toNat ∧ c.toNat ≤ 90) ∨ (97 ≤ c.toNat ∧ c.toNat ≤ 122))
theorem rletter_any (c : UInt8) (w : World) : Calls Tryd.prog 61 #[.int .u8 c.toNat] w fun e w' => e = .returned (.bool (letB c)) ∧ w = w' := by
  obtain ⟨R, hR⟩ : ∃ R : Bool, R = letB c := ⟨_, rfl⟩
  rw [← hR]
  unfold letB at hR
  have HR := Lib.hid hR; clear hR
  have h256 := u8_lt c
  go_enter Tryd.func61, Tryd.ntmps61
  go_wp2
  all_goals
    go_ret
    refine ⟨ret_bool ?_, rfl⟩
    rw [HR.out, Bool.eq_iff_iff]; simp; try omega
theorem rin_any (c : UInt8) {b : Bool} (w : World) (h : wordB c = b) : Calls Tryd.prog 52 #[.int .u8 c.toNat] w fun e w' => e = .returned (.bool b) ∧ w = w' := by
  obtain ⟨lb, hlb⟩ : ∃ lb, letB c = lb := ⟨_, rfl⟩
  have HB : Hid (b = (lb || decide (48 ≤ c.toNat ∧ c.toNat ≤ 57) || decide (128 ≤ c.toNat))) := Lib.hid (by
    rw [← h, ← hlb]; unfold wordB letB; rw [Bool.eq_iff_iff]; simp; omega)
  have HL := Lib.hid hlb
  have h256 := u8_lt c
  clear h hlb
  cases lb
  all_goals
    go_enter Tryd.func52, Tryd.ntmps52
    go_wp2_with (go_at_call 61; refine (rletter_any _ _).mono ?_; rintro e w1 ⟨rfl, rfl⟩; rw [HL.out])
    all_goals
      go_ret
      refine ⟨ret_bool ?_, rfl⟩
      rw [HB.out, Bool.eq_iff_iff]; simp; try omega
theorem rName_any (n : Int) (w : World) :
    Calls Tryd.prog 25 #[.int .i64 n] w fun e w' => e = .returned (.string ⟨(nameOf n).toArray⟩) ∧ w = w' := by
  by_cases h : 1 ≤ n ∧ n ≤ 5
  · obtain ⟨h1, h2⟩ := h
    have hn : n = 1 ∨ n = 2 ∨ n = 3 ∨ n = 4 ∨ n = 5 := by omega
    rcases hn with rfl | rfl | rfl | rfl | rfl
    all_goals
      go_enter Tryd.func25, Tryd.ntmps25
      go_wp2
      go_ret
      exact ⟨rfl, rfl⟩
  · have hz : nameOf n = [] := by
      unfold nameOf; rw [if_neg (by omega), if_neg (by omega), if_neg (by omega), if_neg (by omega), if_neg (by omega)]
    have e1 : (n == 1) = false := by rw [beq_eq_false_iff_ne]; omega
    have e2 : (n == 2) = false := by rw [beq_eq_false_iff_ne]; omega
    have e3 : (n == 3) = false := by rw [beq_eq_false_iff_ne]; omega
    have e4 : (n == 4) = false := by rw [beq_eq_false_iff_ne]; omega
    have e5 : (n == 5) = false := by rw [beq_eq_false_iff_ne]; omega
    rw [hz]
    go_enter Tryd.func25, Tryd.ntmps25
    go_wp2
    go_ret
    exact ⟨rfl, rfl⟩
/-! ### Words -/
def addL (ws : List Str) (c : UInt8) : List Str := ws.set (ws.length - 1) (ws.getD (ws.length - 1) [] ++ [c])
def wordsL : Bool → Str → List Str → List Str
  | _, [], ws => ws
  | pw, c :: r, ws => if wordB c = true then (if pw = true then wordsL true r (addL ws c) else wordsL true r (addL (ws ++ [[]]) c)) else wordsL false r ws
theorem addL_snoc (ws : List Str) (l : Str) (c : UInt8) : addL (ws ++ [l]) c = ws ++ [l ++ [c]] := by
  unfold addL
  rw [List.length_append, List.length_singleton, Nat.add_sub_cancel, List.getD_eq_getElem?_getD, List.getElem?_append_right (Nat.le_refl _), Nat.sub_self]
  rw [List.set_append_right _ _ (Nat.le_refl _), Nat.sub_self]; rfl
theorem addL_len (ws : List Str) (c : UInt8) : (addL ws c).length = ws.length := by unfold addL; simp
def capW (f : UInt8 → UInt8) : Str → Str
  | [] => []
  | c :: r => f c :: r
def joinW (small : Bool) : List Str → Str
  | [] => []
  | l :: r => capW (if small = true then lowB else upB) l ++ r.flatMap (capW upB)
theorem joinW_snoc (small : Bool) (ws : List Str) (l : Str) : joinW small (ws ++ [l]) = joinW small ws ++ (if ws = [] then capW (if small = true then lowB else upB) l else capW upB l) := by
  cases ws with
  | nil => simp [joinW]
  | cons a r => simp [joinW]
theorem capW_snoc (f : UInt8 → UInt8) {l : Str} (h : l ≠ []) (c : UInt8) : capW f (l ++ [c]) = capW f l ++ [c] := by
  cases l with
  | nil => exact absurd rfl h
  | cons a r => rfl
theorem joinW_nil {small : Bool} {ws : List Str} (h : ∀ x ∈ ws, x ≠ []) : joinW small ws = [] ↔ ws = [] := by
  cases ws with
  | nil => simp [joinW]
  | cons a r =>
    have := h a (List.mem_cons_self ..)
    cases a with
    | nil => exact absurd rfl this
    | cons x y => simp [joinW, capW]
theorem snoc_of_ne {α : Type} {l : List α} (h : l ≠ []) : ∃ i a, l = i ++ [a] := ⟨l.dropLast, l.getLast h, (List.dropLast_concat_getLast h).symm⟩
theorem words_join (small : Bool) : ∀ (l : Str) (pw : Bool) (ws : List Str), (∀ x ∈ ws, x ≠ []) → (pw = true → ws ≠ []) → joinL small pw l (joinW small ws) = joinW small (wordsL pw l ws)
  | [], pw, ws, _, _ => by simp [joinL, wordsL]
  | c :: r, pw, ws, h1, h2 => by
    unfold joinL wordsL
    by_cases hw : wordB c = true
    · rw [if_pos hw, if_pos hw]
      by_cases hp : pw = true
      · rw [if_pos hp, if_pos hp]
        obtain ⟨i, a, rfl⟩ := snoc_of_ne (h2 hp)
        have ha := h1 a (by simp)
        rw [addL_snoc, ← words_join small r true (i ++ [a ++ [c]]) ?_ (by simp)]
        · congr 1
          rw [joinW_snoc, joinW_snoc]
          split <;> rw [capW_snoc _ ha, List.append_assoc]
        · intro x hx
          rcases List.mem_append.1 hx with hx | hx
          · exact h1 x (List.mem_append_left _ hx)
          · simp at hx; subst hx; simp
      · rw [if_neg hp, if_neg hp]
        rw [addL_snoc, List.nil_append]
        have hn : ∀ x ∈ ws ++ [[c]], x ≠ [] := by
          intro x hx
          rcases List.mem_append.1 hx with hx | hx
          · exact h1 x hx
          · simp at hx; subst hx; simp
        rw [← words_join small r true (ws ++ [[c]]) hn (by simp), joinW_snoc]
        by_cases hws : ws = []
        · subst hws
          cases small <;> simp [joinW, capW]
        · have hj := mt (joinW_nil (small := small) h1).1 hws
          rw [if_neg hws, if_neg (fun h => hj h.2)]; rfl
    · rw [if_neg hw, if_neg hw]
      exact words_join small r false ws h1 (by simp)
theorem words_ne : ∀ (l : Str) (pw : Bool) (ws : List Str), (∀ x ∈ ws, x ≠ []) → (pw = true → ws ≠ []) → ∀ x ∈ wordsL pw l ws, x ≠ []
  | [], pw, ws, h, _ => by simpa [wordsL] using h
  | c :: r, pw, ws, h, h2 => by
    unfold wordsL
    split
    · split
      · rename_i hp
        obtain ⟨i, a, rfl⟩ := snoc_of_ne (h2 hp)
        rw [addL_snoc]
        exact words_ne r true _ (fun x hx => by
          rcases List.mem_append.1 hx with hx | hx
          · exact h x (List.mem_append_left _ hx)
          · simp at hx; subst hx; simp) (by simp)
      · rw [addL_snoc]
        exact words_ne r true _ (fun x hx => by
          rcases List.mem_append.1 hx with hx | hx
          · exact h x hx
          · simp at hx; subst hx; simp) (by simp)
    · exact words_ne r false ws h (by simp)
end Go.Proofs.YtlomkfennnmkdaaDoor
