/- What FmtJoins leans on, told plainly. -/
import Derived.Test.YtlomkfennnmkdaaDoorT15
import Derived.Test.YtlomkfennnmkdaaDoorT8
namespace Go.Proofs.YtlomkfennnmkdaaDoor
theorem leftF_bound : ∀ (fs : List Fm) (n : Int), n ≤ 100 → 0 ≤ leftF fs n → ∀ f ∈ fs, f.thn.length ≤ 100 ∧ f.els.length ≤ 100
  | [], _, _, _, f, hf => by simp at hf
  | g :: r, n, hn, h, f, hf => by
    simp only [leftF] at h
    split at h
    · omega
    · rename_i hc
      rcases List.mem_cons.1 hf with rfl | hf
      · omega
      · exact leftF_bound r _ (by omega) h f hf
theorem mayL_append : ∀ (a b : List Fm) (pt : Bool), mayL pt (a ++ b) = true → mayL pt a = true ∧ mayL false b = true
  | [], b, pt, h => by
    refine ⟨rfl, ?_⟩
    cases b with
    | nil => rfl
    | cons f r =>
      simp only [List.nil_append, mayL, Bool.and_eq_true, Bool.and_false, Bool.not_false, Bool.true_and] at h ⊢
      exact ⟨⟨h.1.1, trivial⟩, h.2⟩
  | f :: r, b, pt, h => by
    simp only [List.cons_append, mayL, Bool.and_eq_true] at h
    obtain ⟨h1, h2⟩ := mayL_append r b _ h.2
    exact ⟨by simp only [mayL, Bool.and_eq_true]; exact ⟨h.1, h1⟩, h2⟩
theorem apply_append (a b : List Fm) (ps : List Str) (h : mayFs (a ++ b) = true) : applyF (a ++ b) ps = applyF a ps ++ applyF b ps := by
  obtain ⟨h1, h2⟩ := mayL_append a b false h
  unfold applyF
  rw [if_pos h, if_pos (show mayFs a = true from h1), if_pos (show mayFs b = true from h2), List.flatMap_append]
/-- One part of conditions. -/
theorem apply_both (k : Int) (t e : Str) (ps : List Str) (h0 : 0 ≤ k) (h1 : k ≤ 9999) : applyF [⟨5, k, 0, t, e⟩] ps = if partOf ps k = [] then e else t := by
  have hm : mayFs [⟨5, k, 0, t, e⟩] = true := by simp [mayFs, mayL, mayF, blankB]; omega
  unfold applyF; rw [if_pos hm]; simp [piece]
theorem apply_if (k : Int) (t : Str) (ps : List Str) (h0 : 0 ≤ k) (h1 : k ≤ 9999) : applyF [⟨3, k, 0, t, []⟩] ps = if partOf ps k = [] then [] else t := by
  have hm : mayFs [⟨3, k, 0, t, []⟩] = true := by simp [mayFs, mayL, mayF, blankB]; omega
  unfold applyF; rw [if_pos hm]; simp [piece]
theorem apply_else (k : Int) (e : Str) (ps : List Str) (h0 : 0 ≤ k) (h1 : k ≤ 9999) : applyF [⟨4, k, 0, [], e⟩] ps = if partOf ps k = [] then e else partOf ps k := by
  have hm : mayFs [⟨4, k, 0, [], e⟩] = true := by simp [mayFs, mayL, mayF, blankB]; omega
  unfold applyF; rw [if_pos hm]; simp [piece]
theorem longL_bound : ∀ (ps : List Str) (n : Int), n ≤ 100 → longL ps n = false → ∀ p ∈ ps, p.length ≤ 100
  | [], _, _, _, p, hp => by simp at hp
  | s :: r, n, hn, h, p, hp => by
    simp only [longL] at h
    split at h
    · cases h
    · rename_i hc
      rcases List.mem_cons.1 hp with rfl | hp
      · omega
      · exact longL_bound r _ (by omega) h p hp
end Go.Proofs.YtlomkfennnmkdaaDoor
