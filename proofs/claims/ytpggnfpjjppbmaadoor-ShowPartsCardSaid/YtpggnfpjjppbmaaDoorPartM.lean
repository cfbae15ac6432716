/- What ShowParts leans on, told plainly. -/
import Derived.Test.YtpggnfpjjppbmaaDoorShL
import Derived.Test.YtpggnfpjjppbmaaDoorC5
set_option maxRecDepth 100000
namespace Go.Proofs.YtpggnfpjjppbmaaDoor
def spread (kd : Int) (x : Rx) : List Rx := if x.kind = kd then x.kids else [x]
theorem flatL_two (kd : Int) (x y : Rx) : flatL kd [x, y] = spread kd x ++ spread kd y := by simp [flatL, spread]
theorem tellL_append : ∀ (a b : List Rx), Rx.tellL (a ++ b) = Rx.tellL a ++ Rx.tellL b
  | [], b => by simp [Rx.tellL]
  | x :: r, b => by simp only [List.cons_append, Rx.tellL]; rw [tellL_append r b, List.append_assoc]
theorem tellA_append : ∀ (a b : List Rx) (f : Bool), Rx.tellA f (a ++ b) = Rx.tellA f a ++ Rx.tellA (f || !decide (a = [])) b
  | [], b, f => by simp [Rx.tellA]
  | x :: r, b, f => by
    simp only [List.cons_append, Rx.tellA]
    rw [tellA_append r b true]
    simp
theorem tellA_true : ∀ (b : List Rx), b ≠ [] → Rx.tellA true b = 124 :: Rx.tellA false b
  | [], h => absurd rfl h
  | x :: r, _ => by simp [Rx.tellA]
theorem wfL_append : ∀ (a b : List Rx), Rx.wfL (a ++ b) = (Rx.wfL a && Rx.wfL b)
  | [], b => by simp [Rx.wfL]
  | x :: r, b => by simp only [List.cons_append, Rx.wfL]; rw [wfL_append r b, Bool.and_assoc]
theorem wtL_append : ∀ (a b : List Rx), Rx.wtL (a ++ b) = Rx.wtL a + Rx.wtL b
  | [], b => by simp [Rx.wtL]
  | x :: r, b => by simp only [List.cons_append, Rx.wtL]; rw [wtL_append r b]; omega
theorem deepL_append : ∀ (a b : List Rx), Rx.deepL (a ++ b) = max (Rx.deepL a) (Rx.deepL b)
  | [], b => by simp [Rx.deepL]
  | x :: r, b => by simp only [List.cons_append, Rx.deepL]; rw [deepL_append r b]; omega
theorem seq_wf {k : Int} {c : Str} {ng : Bool} {rs : List (Str × Str)} {lo hi : Int} {lz : Bool} {ks : List Rx} (hk : k = 0) (h : (Rx.mk k c ng rs lo hi lz ks).wf = true) : Rx.wfL ks = true ∧ ∀ y ∈ ks, y.kind ≠ 0 ∧ y.kind ≠ 1 := by
  subst hk
  obtain ⟨h1, h2⟩ := wf_mk h
  refine ⟨h2, fun y hy => ?_⟩
  simp [fieldsB] at h1
  exact h1.2 y hy
theorem alt_wf {k : Int} {c : Str} {ng : Bool} {rs : List (Str × Str)} {lo hi : Int} {lz : Bool} {ks : List Rx} (hk : k = 1) (h : (Rx.mk k c ng rs lo hi lz ks).wf = true) : Rx.wfL ks = true ∧ 1 < ks.length ∧ ∀ y ∈ ks, y.kind ≠ 1 := by
  subst hk
  obtain ⟨h1, h2⟩ := wf_mk h
  simp [fieldsB] at h1
  exact ⟨h2, h1.1.2, h1.2⟩
theorem spread_seq {x : Rx} (h : x.wf = true) (hk : x.kind ≠ 1) : Rx.wfL (spread 0 x) = true ∧ (∀ y ∈ spread 0 x, y.kind ≠ 0 ∧ y.kind ≠ 1) ∧ Rx.tellL (spread 0 x) = x.tell ∧ Rx.wtL (spread 0 x) ≤ x.wt ∧ Rx.deepL (spread 0 x) ≤ x.deep := by
  unfold spread
  by_cases h0 : x.kind = 0
  · rw [if_pos h0]
    obtain ⟨k, c, ng, rs, lo, hi, lz, ks⟩ := x
    replace h0 : k = 0 := h0
    obtain ⟨h1, h2⟩ := seq_wf h0 h
    subst h0
    refine ⟨h1, h2, by simp [Rx.kids, Rx.tell], by simp only [Rx.kids, Rx.wt]; omega, by simp [Rx.kids, Rx.deep]⟩
  · rw [if_neg h0]
    refine ⟨by simp [Rx.wfL, h], fun y hy => ?_, by simp [Rx.tellL], by simp [Rx.wtL], by simp [Rx.deepL]⟩
    simp at hy; subst hy; exact ⟨h0, hk⟩
theorem spread_alt {x : Rx} (h : x.wf = true) : Rx.wfL (spread 1 x) = true ∧ (∀ y ∈ spread 1 x, y.kind ≠ 1) ∧ spread 1 x ≠ [] ∧ Rx.tellA false (spread 1 x) = x.tell ∧ Rx.wtL (spread 1 x) ≤ x.wt ∧ Rx.deepL (spread 1 x) ≤ x.deep := by
  unfold spread
  by_cases h0 : x.kind = 1
  · rw [if_pos h0]
    obtain ⟨k, c, ng, rs, lo, hi, lz, ks⟩ := x
    replace h0 : k = 1 := h0
    obtain ⟨h1, h2, h3⟩ := alt_wf h0 h
    subst h0
    refine ⟨h1, h3, fun e => ?_, by simp [Rx.kids, Rx.tell], by simp only [Rx.kids, Rx.wt]; omega, by simp [Rx.kids, Rx.deep]⟩
    simp only [Rx.kids] at e; subst e; simp at h2
  · rw [if_neg h0]
    refine ⟨by simp [Rx.wfL, h], fun y hy => ?_, by simp, by simp [Rx.tellA], by simp [Rx.wtL], by simp [Rx.deepL]⟩
    simp at hy; subst hy; exact h0
theorem may_of {z : Rx} (h : z.wf = true) (hw : z.wt ≤ 500) (hd : z.deep ≤ 16) : mayB z = true := by
  have hp := parts_wt _ z (Nat.le_refl _)
  simp only [mayB, okB, h, Bool.true_and, Bool.and_eq_true, decide_eq_true_eq]
  omega
theorem bare0 (k : Int) (ks : List Rx) : bareB (.mk k [] false [] 0 0 false ks) = true := rfl
theorem alt_two {x y : Rx} (hx : x.wf = true) (hy : y.wf = true) : (altR [x, y]).wf = true ∧ (altR [x, y]).wt ≤ 1 + x.wt + y.wt ∧ (altR [x, y]).deep ≤ max x.deep y.deep ∧ (altR [x, y]).tell = x.tell ++ 124 :: y.tell := by
  obtain ⟨a1, a2, a3, a4, a5, a6⟩ := spread_alt hx
  obtain ⟨b1, b2, b3, b4, b5, b6⟩ := spread_alt hy
  have hl : 2 ≤ (spread 1 x ++ spread 1 y).length := by
    have := List.length_pos_iff.2 a3; have := List.length_pos_iff.2 b3
    simp; omega
  have hz : altR [x, y] = kind1 (spread 1 x ++ spread 1 y) := by
    unfold altR; rw [flatL_two]
    generalize spread 1 x ++ spread 1 y = l at *
    match l, hl with
    | _ :: _ :: _, _ => rfl
  rw [hz]
  unfold kind1
  refine ⟨?_, ?_, ?_, ?_⟩
  · simp only [Rx.wf]
    rw [wfL_append, a1, b1]
    simp only [fieldsB, bare0]
    rw [if_neg (by decide), if_neg (by decide), if_neg (by decide), if_neg (by decide), if_pos trivial]
    simp
    exact ⟨by simp at hl; omega, a2, b2⟩
  · simp only [Rx.wt, rwt, List.length_nil]; rw [wtL_append]; omega
  · simp only [Rx.deep]; rw [deepL_append, if_neg (by decide)]; omega
  · simp only [Rx.tell]
    rw [if_neg (by decide), if_pos trivial, tellA_append, a4]
    simp only [Bool.false_or, decide_eq_false a3, Bool.not_false]
    rw [tellA_true _ b3, b4]
theorem seq_two {x y : Rx} (hx : x.wf = true) (hy : y.wf = true) (hkx : x.kind ≠ 1) (hky : y.kind ≠ 1) : (seqR [x, y]).wf = true ∧ (seqR [x, y]).wt ≤ 1 + x.wt + y.wt ∧ (seqR [x, y]).deep ≤ max x.deep y.deep ∧ (seqR [x, y]).tell = x.tell ++ y.tell := by
  obtain ⟨a1, a2, a4, a5, a6⟩ := spread_seq hx hkx
  obtain ⟨b1, b2, b4, b5, b6⟩ := spread_seq hy hky
  have c1 : Rx.wfL (spread 0 x ++ spread 0 y) = true := by rw [wfL_append, a1, b1]; rfl
  have c2 : ∀ z ∈ spread 0 x ++ spread 0 y, z.kind ≠ 0 ∧ z.kind ≠ 1 := fun z hz => by
    rcases List.mem_append.1 hz with hz | hz
    · exact a2 z hz
    · exact b2 z hz
  have c4 : Rx.tellL (spread 0 x ++ spread 0 y) = x.tell ++ y.tell := by rw [tellL_append, a4, b4]
  have c5 : Rx.wtL (spread 0 x ++ spread 0 y) ≤ x.wt + y.wt := by rw [wtL_append]; omega
  have c6 : Rx.deepL (spread 0 x ++ spread 0 y) ≤ max x.deep y.deep := by rw [deepL_append]; omega
  unfold seqR
  rw [flatL_two]
  generalize spread 0 x ++ spread 0 y = l at *
  rw [← c4]
  have gen : l.length ≠ 1 → (kind0 l).wf = true ∧ (kind0 l).wt ≤ 1 + x.wt + y.wt ∧ (kind0 l).deep ≤ max x.deep y.deep ∧ (kind0 l).tell = Rx.tellL l := by
    intro hl
    unfold kind0
    refine ⟨?_, ?_, ?_, ?_⟩
    · simp only [Rx.wf]
      rw [c1]
      simp only [fieldsB, bare0]
      rw [if_neg (by decide), if_neg (by decide), if_neg (by decide), if_pos trivial]
      simp
      exact ⟨hl, c2⟩
    · simp only [Rx.wt, rwt, List.length_nil]; omega
    · simp only [Rx.deep]; rw [if_neg (by decide)]; omega
    · simp [Rx.tell]
  match l, c1, c2, c5, c6, gen with
  | [], _, _, _, _, gen => exact gen (by simp)
  | [z], c1, _, c5, c6, _ =>
    simp only [Rx.wfL, Bool.and_true] at c1
    simp only [Rx.wtL] at c5
    simp only [Rx.deepL] at c6
    exact ⟨c1, by show z.wt ≤ _; omega, by show z.deep ≤ _; omega, by simp [Rx.tellL]⟩
  | _ :: _ :: _, _, _, _, _, gen => exact gen (by simp)
def grp (k : Int) (x : Rx) : Rx := .mk k [] false [] 0 0 false [x]
def rep1 (x : Rx) : Rx := .mk 7 [] false [] 0 1 true [grp 6 x]
theorem grp_one {x : Rx} (hx : x.wf = true) {k : Int} (hk : k = 5 ∨ k = 6) : (grp k x).wf = true ∧ (grp k x).wt = 1 + x.wt ∧ (grp k x).deep = x.deep + 1 := by
  unfold grp
  refine ⟨?_, ?_, ?_⟩
  · rcases hk with rfl | rfl <;> simp [Rx.wf, Rx.wfL, hx, fieldsB, bare0]
  · simp [Rx.wt, Rx.wtL, rwt]
  · simp only [Rx.deep, Rx.deepL]; rw [if_pos hk]; simp
theorem grp5_tell (x : Rx) : (grp 5 x).tell = 40 :: (x.tell ++ [41]) := by simp [grp, Rx.tell, Rx.tellL]
theorem grp6_tell (x : Rx) : (grp 6 x).tell = 40 :: 63 :: 58 :: (x.tell ++ [41]) := by simp [grp, Rx.tell, Rx.tellL]
theorem rep1_one {x : Rx} (hx : x.wf = true) : (rep1 x).wf = true ∧ (rep1 x).wt = 2 + x.wt ∧ (rep1 x).deep = x.deep + 1 ∧ (rep1 x).tell = 40 :: 63 :: 58 :: (x.tell ++ [41, 63, 63]) := by
  obtain ⟨h1, h2, h3⟩ := grp_one hx (k := 6) (.inr rfl)
  unfold rep1
  refine ⟨?_, ?_, ?_, ?_⟩
  · simp [Rx.wf, Rx.wfL, h1, fieldsB, bare0, repB]; simp [grp, Rx.kind]
  · simp only [Rx.wt, Rx.wtL, rwt, List.length_nil]; omega
  · simp only [Rx.deep, Rx.deepL]; simp; exact h3
  · have := grp6_tell x
    simp only [Rx.tell, Rx.tellL]
    rw [this]
    simp [oftS]
end Go.Proofs.YtpggnfpjjppbmaaDoor
