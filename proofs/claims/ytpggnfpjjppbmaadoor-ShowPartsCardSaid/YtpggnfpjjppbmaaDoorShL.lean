/- The plain law of ShowTells: a tree that passes the statements' measure is small. -/
import Derived.Test.YtpggnfpjjppbmaaDoorS7
import Derived.Test.YtpggnfpjjppbmaaDoorShM
set_option maxRecDepth 100000
namespace Go.Proofs.YtpggnfpjjppbmaaDoor
def rwt : List (Str × Str) → Nat
  | [] => 0
  | r :: rs => 1 + r.1.length + r.2.length + rwt rs
namespace Rx
mutual
/-- What a tree weighs: parts, characters, rows. -/
def wt : Rx → Nat
  | mk _ c _ rs _ _ _ ks => 1 + c.length + rwt rs + wtL ks
def wtL : List Rx → Nat
  | [] => 0
  | x :: r => wt x + wtL r
end
end Rx
theorem leftR_eq : ∀ (rs : List (Str × Str)) (n m : Int), leftR rs n = some m → m = n - rwt rs
  | [], n, m, h => by simp only [leftR] at h; injection h with h; subst h; simp [rwt]
  | r :: rs, n, m, h => by
    simp only [leftR] at h
    split at h
    · cases h
    · have := leftR_eq rs _ m h
      simp only [rwt]; omega
theorem left_eq : ∀ (N : Nat) (x : Rx) (n : Int), x.parts ≤ N → 0 ≤ x.left n → x.left n = n - x.wt
  | 0, x, _, h, _ => by have := Rx.parts_pos x; omega
  | N + 1, .mk k c ng rs lo hi lz ks, n, h, h0 => by
    simp only [Rx.parts] at h
    have hk : ∀ (l : List Rx) (m : Int), Rx.partsL l ≤ N → 0 ≤ Rx.leftK l m → Rx.leftK l m = m - Rx.wtL l := by
      intro l
      induction l with
      | nil => intro m _ _; simp [Rx.leftK, Rx.wtL]
      | cons x r ih =>
        intro m hm a
        simp only [Rx.partsL] at hm
        simp only [Rx.leftK] at a ⊢
        split at a
        · omega
        · rename_i hneg
          rw [if_neg hneg]
          have h1 := ih _ (by omega) a
          by_cases hx : 0 ≤ x.left m
          · have := left_eq N x m (by omega) hx
            simp only [Rx.wtL]; omega
          · exfalso
            cases r with
            | nil => simp only [Rx.leftK] at a; omega
            | cons y r =>
              simp only [Rx.leftK] at a
              rw [if_pos (by omega)] at a; omega
    simp only [Rx.left] at h0 ⊢
    split at h0
    · omega
    · rename_i hc
      rw [if_neg hc]
      split at h0
      · omega
      · rename_i m hm
        have h2 := leftR_eq rs _ m hm
        have h3 := hk ks m (by omega) h0
        simp only [Rx.wt]
        show Rx.leftK ks m = _
        omega
theorem parts_wt : ∀ (N : Nat) (x : Rx), x.parts ≤ N → x.parts ≤ x.wt
  | 0, x, h => by have := Rx.parts_pos x; omega
  | N + 1, .mk k c ng rs lo hi lz ks, h => by
    simp only [Rx.parts] at h
    have hk : ∀ (l : List Rx), Rx.partsL l ≤ N → Rx.partsL l ≤ Rx.wtL l := by
      intro l
      induction l with
      | nil => intro _; simp [Rx.partsL, Rx.wtL]
      | cons x r ih =>
        intro hm
        simp only [Rx.partsL] at hm
        simp only [Rx.partsL, Rx.wtL]
        have := parts_wt N x (by omega)
        have := ih (by omega)
        omega
    have := hk ks (by omega)
    simp only [Rx.parts, Rx.wt]; omega
theorem rwt_mem : ∀ {rs : List (Str × Str)}, rs.length ≤ rwt rs ∧ ∀ r ∈ rs, r.1.length ≤ rwt rs ∧ r.2.length ≤ rwt rs
  | [] => by simp [rwt]
  | r :: rs => by
    obtain ⟨h1, h2⟩ := rwt_mem (rs := rs)
    simp only [rwt, List.length_cons]
    refine ⟨by omega, fun q hq => ?_⟩
    rcases List.mem_cons.1 hq with rfl | hq
    · omega
    · have := h2 q hq; omega
theorem small_wt : ∀ (N : Nat) (x : Rx), x.parts ≤ N → x.wt ≤ 1000000 → x.small
  | 0, x, h, _ => by have := Rx.parts_pos x; omega
  | N + 1, .mk k c ng rs lo hi lz ks, h, hw => by
    simp only [Rx.parts] at h
    simp only [Rx.wt] at hw
    have hk : ∀ (l : List Rx), Rx.partsL l ≤ N → Rx.wtL l ≤ 1000000 → Rx.smallL l := by
      intro l
      induction l with
      | nil => intro _ _; simp [Rx.smallL]
      | cons x r ih =>
        intro hm hw
        simp only [Rx.partsL] at hm
        simp only [Rx.wtL] at hw
        simp only [Rx.smallL]
        exact ⟨small_wt N x (by omega) (by omega), ih (by omega) (by omega)⟩
    obtain ⟨r1, r2⟩ := rwt_mem (rs := rs)
    have hl := Rx.len_parts ks
    have hp : Rx.partsL ks ≤ Rx.wtL ks := by
      have := parts_wt _ (.mk k [] ng [] lo hi lz ks) (Nat.le_refl _)
      simp only [Rx.parts, Rx.wt, rwt, List.length_nil] at this; omega
    simp only [Rx.small, Rx.small1]
    refine ⟨⟨by omega, by omega, fun r hr => ?_, by omega⟩, hk ks (by omega) (by omega)⟩
    have := r2 r hr; omega
theorem rowS_len : ∀ (rs : List (Str × Str)), (rs.flatMap rowS).length ≤ 3 * rwt rs
  | [] => by simp
  | r :: rs => by
    have ih := rowS_len rs
    have h1 := escL_len th2 r.1
    have h2 := escL_len th2 r.2
    have h3 : (rowS r).length ≤ r.1.length + 1 + (r.2.length + 2) := by
      unfold rowS
      split <;> simp <;> omega
    rw [List.flatMap_cons, List.length_append]
    simp only [rwt]; omega
theorem tell_len : ∀ (N : Nat) (x : Rx), x.parts ≤ N → x.wf = true → x.tell.length + 1 ≤ 15 * x.wt
  | 0, x, h, _ => by have := Rx.parts_pos x; omega
  | N + 1, .mk k c ng rs lo hi lz ks, h, hwf => by
    obtain ⟨hf, hwl⟩ := wf_mk hwf
    simp only [Rx.parts] at h
    have hk : ∀ (l : List Rx), Rx.partsL l ≤ N → Rx.wfL l = true → (Rx.tellL l).length ≤ 15 * Rx.wtL l ∧ ∀ b, (Rx.tellA b l).length ≤ 15 * Rx.wtL l := by
      intro l
      induction l with
      | nil => intro _ _; simp [Rx.tellL, Rx.tellA, Rx.wtL]
      | cons x r ih =>
        intro hm hw
        simp only [Rx.partsL] at hm
        simp only [Rx.wfL, Bool.and_eq_true] at hw
        have h1 := tell_len N x (by omega) hw.1
        obtain ⟨h2, h3⟩ := ih (by omega) hw.2
        simp only [Rx.tellL, Rx.tellA, Rx.wtL, List.length_append]
        refine ⟨by omega, fun b => ?_⟩
        have h4 := h3 true
        cases b <;> simp <;> omega
    obtain ⟨h1, h2⟩ := hk ks (by omega) hwl
    have h3 := h2 false
    have e1 := escL_len th1 c
    have e2 := rowS_len rs
    simp only [Rx.wt]
    rcases kind_le hf with rfl | rfl | rfl | rfl | rfl | rfl | rfl | rfl | rfl | rfl | rfl | rfl
    · simp [Rx.tell]; omega
    · simp [Rx.tell]; omega
    · simp [Rx.tell]; omega
    · simp [Rx.tell]; omega
    · simp only [Rx.tell]
      rw [if_neg (by decide), if_neg (by decide), if_neg (by decide), if_neg (by decide), if_neg (by decide), if_neg (by decide), if_neg (by decide), if_neg (by decide), if_pos trivial]
      unfold setS
      cases ng <;> simp only [Bool.false_eq_true, if_false, if_true, List.length_cons, List.length_append, List.length_nil] <;> omega
    · simp [Rx.tell]; omega
    · simp [Rx.tell]; omega
    · simp only [fieldsB] at hf
      rw [if_neg (by decide), if_neg (by decide), if_pos trivial] at hf
      simp only [Bool.and_eq_true, decide_eq_true_eq] at hf
      have h5 := oftS_len hf.2.1 hf.2.2.1 hf.2.2.2
      cases lz <;> simp [Rx.tell] <;> omega
    · simp [Rx.tell]; omega
    · simp [Rx.tell]; omega
    · simp [Rx.tell]; omega
    · simp [Rx.tell]; omega
end Go.Proofs.YtpggnfpjjppbmaaDoor
