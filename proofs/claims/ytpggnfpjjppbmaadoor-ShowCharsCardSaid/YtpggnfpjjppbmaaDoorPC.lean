/- A text's characters, each taken as one: what they are told as. -/
import Derived.Test.YtpggnfpjjppbmaaDoorBP
import Derived.Test.YtpggnfpjjppbmaaDoorBS
import Derived.Test.YtpggnfpjjppbmaaDoorS8
set_option maxRecDepth 100000
namespace Go.Proofs.YtpggnfpjjppbmaaDoor
theorem splitR_eq : ∀ (r cur : Str), splitR cur r = (cur ++ r.takeWhile insideB) :: splitM (r.dropWhile insideB)
  | [], cur => by simp [splitR, splitM, splitF]
  | c :: r, cur => by
    simp only [splitR]
    cases h : insideB c with
    | true => rw [if_pos rfl, splitR_eq r (cur ++ [c]), List.takeWhile_cons_of_pos h, List.dropWhile_cons_of_pos h]; simp
    | false => rw [if_neg (by simp), splitR_eq r [c], List.takeWhile_cons_of_neg (by simp [h]), List.dropWhile_cons_of_neg (by simp [h]), splitM_cons']; simp
theorem splitL_eq (s : Str) : splitL s = splitM s := by
  cases s with
  | nil => rfl
  | cons c r => simp only [splitL]; rw [splitR_eq, splitM_cons']; rfl
def chrL (s : Str) : List Rx := (splitM s).map chrR
theorem chr_kind (c : Str) : (chrR c).kind = 2 := rfl
theorem chrL_inv (l : List Str) : InvT (l.map chrR) := fun y hy => by
  obtain ⟨c, _, rfl⟩ := List.mem_map.1 hy
  exact ⟨by show (2 : Int) ≠ 0; decide, by show (2 : Int) ≠ 1; decide⟩
theorem chrL_facts : ∀ (l : List Str), prC l → Rx.wfL (l.map chrR) = true ∧ Rx.partsL (l.map chrR) = l.length ∧ Rx.groupsL (l.map chrR) = 0 ∧ Rx.deepL (l.map chrR) = 0 ∧ Rx.tellL (l.map chrR) = l.flatMap (escL th1)
  | [], _ => ⟨rfl, rfl, rfl, rfl, rfl⟩
  | c :: l, h => by
    obtain ⟨i1, i2, i3, i4, i5⟩ := chrL_facts l (fun p hp => h p (List.mem_cons_of_mem _ hp))
    have hw := wf_chr (h c (List.mem_cons_self ..))
    refine ⟨?_, ?_, ?_, ?_, ?_⟩
    · simp only [List.map_cons, Rx.wfL, hw, i1]; rfl
    · simp only [List.map_cons, Rx.partsL, i2, List.length_cons]; simp [chrR, Rx.parts, Rx.partsL]; omega
    · simp only [List.map_cons, Rx.groupsL, i3]; simp [chrR, Rx.groups, Rx.groupsL]
    · simp only [List.map_cons, Rx.deepL, i4]; simp [chrR, Rx.deep, Rx.deepL]
    · simp only [List.map_cons, Rx.tellL, i5, List.flatMap_cons]; rfl
theorem split_join : ∀ (n : Nat) (s : Str), s.length ≤ n → (splitM s).flatten = s
  | _, [], _ => rfl
  | 0, _ :: _, h => by simp at h
  | n + 1, c :: r, h => by
    have e : (r.takeWhile insideB).length + (r.dropWhile insideB).length = r.length := by
      rw [← List.length_append, List.takeWhile_append_dropWhile]
    simp only [List.length_cons] at h
    rw [splitM_cons', List.flatten_cons, split_join n (r.dropWhile insideB) (by omega), List.cons_append, List.takeWhile_append_dropWhile]
theorem escL_ge (th c : Str) : c.length ≤ (escL th c).length := by
  unfold escL
  (repeat' split) <;> simp_all
theorem esc_lens (th : Str) : ∀ (l : List Str), (∀ p ∈ l, p ≠ []) → l.flatten.length ≤ (l.flatMap (escL th)).length ∧ (l.flatMap (escL th)).length ≤ l.flatten.length + l.length ∧ l.length ≤ l.flatten.length
  | [], _ => ⟨by simp, by simp, by simp⟩
  | c :: l, h => by
    obtain ⟨i1, i2, i3⟩ := esc_lens th l (fun p hp => h p (List.mem_cons_of_mem _ hp))
    have hc := h c (List.mem_cons_self ..)
    have h1 := escL_ge th c
    have h2 := escL_len th c
    have h3 : 0 < c.length := List.length_pos_iff.2 hc
    simp only [List.flatten_cons, List.flatMap_cons, List.length_append, List.length_cons]
    exact ⟨by omega, by omega, by omega⟩
theorem chrs_flat (l : List Str) : flatL 0 (l.map chrR) = l.map chrR := flatL_id fun y hy => (chrL_inv l y hy).1
/-- All that is asked of a text's characters. -/
theorem chars_all {s : Str} (hl : s.length ≤ 60) (hp : headP s) :
    mayB (seqR (chrL s)) = true ∧ (seqR (chrL s)).small ∧ (seqR (chrL s)).tell.length ≤ 2 * s.length ∧ s.length ≤ (seqR (chrL s)).tell.length ∧ (seqR (chrL s)).groups = 0 ∧
    (seqR (chrL s)).parts ≤ 61 ∧ Rx.partsL (chrL s) ≤ 60 ∧ Rx.smallL (chrL s) := by
  have hpr := splitM_pr _ s (Nat.le_refl _) hp
  have hlen := splitM_len s
  obtain ⟨f1, f2, f3, f4, f5⟩ := chrL_facts _ hpr
  obtain ⟨e1, e2, e3⟩ := esc_lens th1 (splitM s) (fun p hq => (splitM_ok (by omega) p hq).1)
  rw [split_join _ s (Nat.le_refl _)] at e1 e2 e3
  have hgd := seqR_gd (chrL_inv (splitM s)) f1
  have hsm : Rx.smallL (chrL s) := by
    have : ∀ l : List Str, okC l → Rx.smallL (l.map chrR) := by
      intro l
      induction l with
      | nil => intro _; trivial
      | cons c l ih => intro h; exact ⟨by have := (h c (List.mem_cons_self ..)).2; simp only [chrR, Rx.small, Rx.small1, Rx.smallL]; exact ⟨⟨by omega, by simp, by simp, by simp⟩, trivial⟩, ih fun p hp => h p (List.mem_cons_of_mem _ hp)⟩
    exact this _ (splitM_ok (by omega))
  have hg : (seqR (chrL s)).groups = 0 ∧ (seqR (chrL s)).deep = 0 ∧ (seqR (chrL s)).tell = (splitM s).flatMap (escL th1) := by
    rw [← f5]
    unfold chrL seqR
    rw [chrs_flat]
    cases hs : (splitM s).map chrR with
    | nil => exact ⟨rfl, rfl, rfl⟩
    | cons x l =>
      rw [hs] at f3 f4
      cases l with
      | nil =>
        simp only [Rx.groupsL, Rx.deepL] at f3 f4
        exact ⟨by simp only; omega, by simp only; omega, by simp [Rx.tellL]⟩
      | cons y l => exact ⟨by simp only [kind0, Rx.groups]; simp; exact f3, by simp only [kind0, Rx.deep]; simp; exact f4, by simp [kind0, Rx.tell]⟩
  obtain ⟨g1, g2, g3⟩ := hg
  have hps : (seqR (chrL s)).parts ≤ 61 := by
    unfold chrL seqR
    rw [chrs_flat]
    cases hs : (splitM s).map chrR with
    | nil => decide
    | cons x l =>
      rw [hs] at f2
      cases l with
      | nil => simp only [Rx.partsL] at f2; simp only; omega
      | cons y l => simp only [kind0, Rx.parts]; omega
  have hss := (seqR_facts hsm (by unfold chrL; omega)).1
  refine ⟨?_, hss, by rw [g3]; omega, by rw [g3]; exact e1, g1, hps, by unfold chrL; omega, hsm⟩
  simp only [mayB, okB, Bool.and_eq_true, decide_eq_true_eq]
  exact ⟨⟨hgd.1, by omega⟩, by omega⟩
/-- What the statement puts together of what is read. -/
def backS (x : Rx) : Str := (if x.kind = 2 then x.chr else []) ++ (x.kids.map Rx.chr).flatten
theorem back_chars (s : Str) : backS (seqR (chrL s)) = s := by
  have hj := split_join _ s (Nat.le_refl _)
  unfold chrL seqR
  rw [chrs_flat]
  have key : ∀ l : List Str, ((l.map chrR).map Rx.chr).flatten = l.flatten := by
    intro l; rw [List.map_map]; congr 1; induction l with
    | nil => rfl
    | cons c l ih => simp only [List.map_cons, ih]; rfl
  have hk := key (splitM s)
  rw [hj] at hk
  cases hs : (splitM s).map chrR with
  | nil => rw [hs] at hk; rw [← hk]; rfl
  | cons x l =>
    rw [hs] at hk
    cases l with
    | nil =>
      have hx : ∃ c, x = chrR c := by
        have : x ∈ (splitM s).map chrR := by rw [hs]; exact List.mem_cons_self ..
        obtain ⟨c, _, rfl⟩ := List.mem_map.1 this
        exact ⟨c, rfl⟩
      obtain ⟨c, rfl⟩ := hx
      rw [← hk]; simp [backS, chrR, Rx.kind, Rx.chr, Rx.kids]
    | cons y l => rw [← hk]; simp [backS, kind0, Rx.kind, Rx.kids]
end Go.Proofs.YtpggnfpjjppbmaaDoor
