/- What rxread reads is of a size that a machine bears; how many parts and groups it has. · What rxread reads: facts of the whole (patF). -/
import Derived.Test.YtemophfieihgaaaX8
import Derived.Test.YtemophfieihgaaaE12
set_option maxRecDepth 100000
namespace Go.Proofs.Ytemophfieihgaaa
theorem sfx_ok {r r1 : List Str} (h : r1 <:+ r) (ho : okC r) : okC r1 := fun p hp => ho p (h.subset hp)
theorem sfx_cons {c : Str} {r r1 : List Str} (h : r1 <:+ r) : r1 <:+ c :: r := h.trans (List.suffix_cons _ _)
theorem takeM_sfx {c : Str} {r r1 : List Str} (h : takeM c r = some r1) : r1 <:+ r := by rw [takeM_some h]; exact List.suffix_cons _ _
theorem item_sfx {r r1 : List Str} {c : Str} {nm : List Row} (h : itemM r = some (c, nm, r1)) : r1 <:+ r := by
  cases r with
  | nil => cases h
  | cons p r =>
    simp only [itemM] at h
    by_cases h1 : p = [93]
    · rw [if_pos h1] at h; cases h
    rw [if_neg h1] at h
    by_cases h2 : p = [92]
    · rw [if_pos h2] at h
      cases r with
      | nil => cases h
      | cons c2 r2 =>
        simp only at h
        cases hn : namedS c2 with
        | some rows =>
          simp only [hn] at h
          injection h with h; injection h with h3 h; injection h with h4 h5
          subst h5
          exact sfx_cons (List.suffix_cons _ _)
        | none =>
          simp only [hn] at h
          cases hpm : plainM c2 with
          | none => simp only [hpm] at h; cases h
          | some t =>
            simp only [hpm] at h
            injection h with h; injection h with h3 h; injection h with h4 h5
            subst h5
            exact sfx_cons (List.suffix_cons _ _)
    · rw [if_neg h2] at h
      injection h with h; injection h with h3 h; injection h with h4 h5
      subst h5
      exact List.suffix_cons _ _
def rowsOk (rows : List Row) : Prop := ∀ q ∈ rows, q.1.length ≤ 1000000 ∧ q.2.length ≤ 1000000
theorem rowsOk_one {c t : Str} (h1 : c.length ≤ 1000000) (h2 : t.length ≤ 1000000) : rowsOk [(c, t)] := by
  intro q hq; rw [List.mem_singleton] at hq; subst hq; exact ⟨h1, h2⟩
theorem rowsOk_app {a b : List Row} (h1 : rowsOk a) (h2 : rowsOk b) : rowsOk (a ++ b) := by
  intro q hq
  rcases List.mem_append.1 hq with h | h
  · exact h1 q h
  · exact h2 q h
theorem classL_facts : ∀ (n : Nat) (rows : List Row) (r : List Str) {rows' : List Row} {r1 : List Str}, classL n rows r = some (rows', r1) → okC r → rowsOk rows →
    r1 <:+ r ∧ r1.length < r.length ∧ rows'.length ≤ rows.length + 4 * r.length ∧ rowsOk rows'
  | 0, _, _, _, _, h, _, _ => by cases h
  | n + 1, rows, r, rows', r1, h, ho, hr => by
    simp only [classL] at h
    cases ht : takeM [93] r with
    | some r0 =>
      simp only [ht] at h
      injection h with h; injection h with h1 h2
      subst h1 h2
      have e := takeM_some ht
      exact ⟨takeM_sfx ht, by rw [e]; simp, by omega, hr⟩
    | none =>
      simp only [ht] at h
      cases hi : itemM r with
      | none => simp only [hi] at h; cases h
      | some y =>
        obtain ⟨c, nm, r2⟩ := y
        simp only [hi] at h
        obtain ⟨f1, f2, f3, f4, f5⟩ := item_facts hi ho
        have fs := item_sfx hi
        by_cases hnm : nm ≠ []
        · rw [if_pos hnm] at h
          obtain ⟨g1, g2, g3, g4⟩ := classL_facts n _ _ h f5 (rowsOk_app hr f4)
          rw [List.length_append] at g3
          exact ⟨g1.trans fs, by omega, by omega, g4⟩
        · rw [if_neg hnm] at h
          have one : ∀ {rr : List Str}, classL n (rows ++ [(c, c)]) rr = some (rows', r1) → okC rr → rr <:+ r → rr.length < r.length → r1 <:+ r ∧ r1.length < r.length ∧ rows'.length ≤ rows.length + 4 * r.length ∧ rowsOk rows' := by
            intro rr h hoo hs hl
            obtain ⟨g1, g2, g3, g4⟩ := classL_facts n _ _ h hoo (rowsOk_app hr (rowsOk_one f3 f3))
            rw [List.length_append, List.length_singleton] at g3
            exact ⟨g1.trans hs, by omega, by omega, g4⟩
          cases ht2 : takeM [45] r2 with
          | none => simp only [ht2] at h; exact one h f5 fs f1
          | some r3 =>
            simp only [ht2] at h
            by_cases ht3 : takeM [93] r3 = none
            · rw [if_pos ht3] at h
              cases hi2 : itemM r3 with
              | none => simp only [hi2] at h; cases h
              | some y =>
                obtain ⟨t, nm2, r4⟩ := y
                simp only [hi2] at h
                have hs3 := takeM_sfx ht2
                have e3 := takeM_some ht2
                obtain ⟨k1, k2, k3, k4, k5⟩ := item_facts hi2 (sfx_ok hs3 f5)
                have ks := item_sfx hi2
                by_cases hb : nm2 ≠ [] ∨ Op.bytesLess t c = true
                · rw [if_pos hb] at h; cases h
                · rw [if_neg hb] at h
                  obtain ⟨g1, g2, g3, g4⟩ := classL_facts n _ _ h k5 (rowsOk_app hr (rowsOk_one f3 k3))
                  rw [List.length_append, List.length_singleton] at g3
                  have : r3.length < r2.length := by rw [e3]; simp
                  exact ⟨((g1.trans ks).trans hs3).trans fs, by omega, by omega, g4⟩
            · rw [if_neg ht3] at h; exact one h f5 fs f1
theorem mrgS_ok {out : List Row} {r : Row} (h1 : rowsOk out) (h2 : r.1.length ≤ 1000000 ∧ r.2.length ≤ 1000000) : rowsOk (mrgS out r) := by
  rcases List.eq_nil_or_concat out with rfl | ⟨B, q, rfl⟩
  · rw [mrgS_nil]; exact rowsOk_one h2.1 h2.2
  · rw [List.concat_eq_append] at h1 ⊢
    have hB : rowsOk B := fun x hx => h1 x (List.mem_append_left _ hx)
    have hq := h1 q (by simp)
    cases hl : leS r.1 q.2 with
    | true =>
      rw [mrgS_le hl]
      refine rowsOk_app hB (rowsOk_one hq.1 ?_)
      unfold mxS
      by_cases hm : Op.bytesLess q.2 r.2 = true
      · rw [if_pos hm]; exact h2.2
      · rw [if_neg hm]; exact hq.2
    | false =>
      rw [mrgS_gt hl]
      exact rowsOk_app h1 (rowsOk_one h2.1 h2.2)
theorem union_ok {rows : List Row} (h : rowsOk rows) : rowsOk (unionM rows) ∧ (unionM rows).length ≤ rows.length := by
  have h1 : rowsOk (stL (filR rows)) := fun q hq => h q ((List.mem_filter.1 ((stL_sorted _).1.mem_iff.1 hq)).1)
  refine ⟨?_, ?_⟩
  · unfold unionM mrgL
    have key : ∀ (l out : List Row), rowsOk l → rowsOk out → rowsOk (l.foldl mrgS out) := by
      intro l
      induction l with
      | nil => intro out _ h; exact h
      | cons r l ih =>
        intro out h1 h2
        exact ih _ (fun q hq => h1 q (List.mem_cons_of_mem _ hq)) (mrgS_ok h2 (h1 r (List.mem_cons_self ..)))
    exact key _ _ h1 (by intro q hq; cases hq)
  · unfold unionM
    have e1 := mrgL_len (stL (filR rows))
    have e2 := stL_len (filR rows)
    have e3 := filR_len rows
    omega
/-- What a reading comes to: b parts more than twice the characters that were read. -/
def Fct (b : Nat) (r : List Str) (x : Rx) (r1 : List Str) : Prop :=
  x.small ∧ x.parts + 2 * r1.length ≤ 2 * r.length + b ∧ x.groups + r1.count [40] ≤ r.count [40] ∧ r1 <:+ r
theorem sfx_count {r r1 : List Str} (h : r1 <:+ r) (c : Str) : r1.count c ≤ r.count c := h.sublist.count_le c
theorem sfx_len {r r1 : List Str} (h : r1 <:+ r) : r1.length ≤ r.length := h.length_le
theorem small_leaf {k : Int} {c : Str} {ng : Bool} {rs : List Row} {lo hi : Int} {lz : Bool} (h1 : c.length ≤ 1000000) (h2 : rs.length ≤ 1000000) (h3 : rowsOk rs) : (Rx.mk k c ng rs lo hi lz []).small := by
  simp only [Rx.small, Rx.small1, Rx.smallL]; exact ⟨⟨h1, h2, h3, by simp⟩, trivial⟩
theorem Fct.leaf {k : Int} {c : Str} {ng : Bool} {rs : List Row} {lo hi : Int} {lz : Bool} {b : Nat} {r r1 : List Str} (h1 : c.length ≤ 1000000) (h2 : rs.length ≤ 1000000) (h3 : rowsOk rs) (hk : k ≠ 5) (hs : r1 <:+ r) (hl : r1.length < r.length) : Fct b r (.mk k c ng rs lo hi lz []) r1 := by
  refine ⟨small_leaf h1 h2 h3, ?_, ?_, hs⟩
  · simp only [Rx.parts, Rx.partsL]; omega
  · simp only [Rx.groups, Rx.groupsL, if_neg hk]; have := sfx_count hs [40]; omega
theorem rowsOk_nil : rowsOk [] := fun _ h => by cases h
theorem esc_facts {r r1 : List Str} {x : Rx} (h : escM r = .ok (x, r1)) (ho : okC r) : Fct 0 r x r1 := by
  cases r with
  | nil => cases h
  | cons c r =>
    have hc := ho c (List.mem_cons_self ..)
    have big : ∀ b, Fct 0 (c :: r) (setR (namedL b) true) r := fun b => Fct.leaf (by simp) (by have := (namedL_len b).1; omega) (namedL_len b).2 (by decide) (List.suffix_cons _ _) (by simp)
    simp only [escM] at h
    cases hn : namedS c with
    | some rows =>
      obtain ⟨b, rfl, _, rfl⟩ := namedS_some hn
      simp only [hn] at h
      injection h with h; injection h with h1 h2; subst h1 h2
      exact Fct.leaf (by simp) (by have := (namedL_len b).1; omega) (namedL_len b).2 (by decide) (List.suffix_cons _ _) (by simp)
    | none =>
      simp only [hn] at h
      cases hb : bigS c with
      | some rows =>
        simp only [hb] at h
        injection h with h; injection h with h1 h2; subst h1 h2
        unfold bigS at hb
        by_cases g1 : c = [68]
        · rw [if_pos g1] at hb; injection hb with hb; rw [← hb]; exact big _
        rw [if_neg g1] at hb
        by_cases g2 : c = [87]
        · rw [if_pos g2] at hb; injection hb with hb; rw [← hb]; exact big _
        rw [if_neg g2] at hb
        by_cases g3 : c = [83]
        · rw [if_pos g3] at hb; injection hb with hb; rw [← hb]; exact big _
        rw [if_neg g3] at hb; cases hb
      | none =>
        simp only [hb] at h
        cases hp : plainM c with
        | none => simp only [hp] at h; cases h
        | some t =>
          simp only [hp] at h
          injection h with h; injection h with h1 h2; subst h1 h2
          exact Fct.leaf (by have := plainM_len hp; omega) (by simp) rowsOk_nil (by decide) (List.suffix_cons _ _) (by simp)
theorem class_facts {r r1 : List Str} {x : Rx} (h : classM r = .ok (x, r1)) (ho : okC r) (hl : r.length ≤ 200000) : Fct 0 r x r1 := by
  have hsx : ((takeM [94] r).getD r) <:+ r := by
    cases ht : takeM [94] r with
    | none => exact List.suffix_refl _
    | some r2 => exact takeM_sfx ht
  unfold classM at h
  generalize (takeM [94] r).isSome = ng at h
  generalize (takeM [94] r).getD r = r0 at h hsx
  simp only at h
  cases hc : classL (r0.length + 1) [] r0 with
  | none => simp only [hc] at h; cases h
  | some y =>
    obtain ⟨rows, r2⟩ := y
    simp only [hc] at h
    injection h with h; injection h with h1 h2; subst h1 h2
    obtain ⟨g1, g2, g3, g4⟩ := classL_facts _ _ _ hc (sfx_ok hsx ho) rowsOk_nil
    have hl0 := sfx_len hsx
    have hu := union_ok g4
    exact Fct.leaf (by simp) (by simp at g3; omega) hu.1 (by decide) (g1.trans hsx) (by omega)
theorem numL_sfx : ∀ (r : List Str) (k n : Nat) {m : Nat} {r1 : List Str}, numL k n r = some (m, r1) → r1 <:+ r
  | [], k, n, m, r1, h => by
    unfold numL at h
    split at h
    · injection h with h; injection h with _ h; subst h; exact List.suffix_refl _
    · cases h
  | c :: r, k, n, m, r1, h => by
    unfold numL at h
    split at h
    · split at h
      · cases h
      · exact sfx_cons (numL_sfx r _ _ h)
    · split at h
      · injection h with h; injection h with _ h; subst h; exact List.suffix_refl _
      · cases h
theorem bounds_sfx {r r1 : List Str} {lo hi : Int} (h : boundsM r = some (lo, hi, r1)) : r1 <:+ r := by
  unfold boundsM at h
  cases h1 : numL 0 0 r with
  | none => simp only [h1] at h; cases h
  | some y =>
    obtain ⟨a, s1⟩ := y
    have e1 := numL_sfx _ _ _ h1
    simp only [h1] at h
    cases h2 : takeM [125] s1 with
    | some s2 =>
      simp only [h2] at h; injection h with h; injection h with _ h; injection h with _ h; subst h
      exact (takeM_sfx h2).trans e1
    | none =>
      simp only [h2] at h
      cases h3 : takeM [44] s1 with
      | none => simp only [h3] at h; cases h
      | some s2 =>
        simp only [h3] at h
        have e2 := (takeM_sfx h3).trans e1
        cases h4 : takeM [125] s2 with
        | some s3 =>
          simp only [h4] at h; injection h with h; injection h with _ h; injection h with _ h; subst h
          exact (takeM_sfx h4).trans e2
        | none =>
          simp only [h4] at h
          cases h5 : numL 0 0 s2 with
          | none => simp only [h5] at h; cases h
          | some y =>
            obtain ⟨b, s3⟩ := y
            have e3 := (numL_sfx _ _ _ h5).trans e2
            simp only [h5] at h
            split at h
            · cases h6 : takeM [125] s3 with
              | none => simp only [h6] at h; cases h
              | some s4 =>
                simp only [h6] at h; injection h with h; injection h with _ h; injection h with _ h; subst h
                exact (takeM_sfx h6).trans e3
            · cases h
theorem small_rep {lo hi : Int} {lz : Bool} {x : Rx} (h : x.small) : (repR lo hi lz x).small := by
  simp only [repR, Rx.small, Rx.small1, Rx.smallL]; exact ⟨⟨by simp, by simp, by simp, by simp⟩, h, trivial⟩
theorem lazy_facts {x y : Rx} {lo hi : Int} {r r1 : List Str} (h : lazyM x lo hi r = (y, r1)) : (∃ lz, y = repR lo hi lz x) ∧ r1 <:+ r := by
  unfold lazyM at h
  cases ht : takeM [63] r with
  | some r2 => simp only [ht] at h; injection h with h1 h2; subst h1 h2; exact ⟨⟨_, rfl⟩, takeM_sfx ht⟩
  | none => simp only [ht] at h; injection h with h1 h2; subst h1 h2; exact ⟨⟨_, rfl⟩, List.suffix_refl _⟩
/-- A quantifier adds one part and takes a character at least. -/
theorem quant_facts {x y : Rx} {r r1 : List Str} (h : quantM x r = .ok (y, r1)) : (y = x ∧ r1 = r) ∨ ((∃ lo hi lz, y = repR lo hi lz x) ∧ r1 <:+ r ∧ r1.length < r.length) := by
  cases r with
  | nil => simp only [quantM] at h; injection h with h; injection h with h1 h2; exact .inl ⟨h1.symm, h2.symm⟩
  | cons c r =>
    simp only [quantM] at h
    have key : ∀ {lo hi : Int} {r2 : List Str}, Except.ok (lazyM x lo hi r2) = (Except.ok (y, r1) : Res) → r2 <:+ r → (y = x ∧ r1 = c :: r) ∨ ((∃ lo hi lz, y = repR lo hi lz x) ∧ r1 <:+ c :: r ∧ r1.length < (c :: r).length) := by
      intro lo hi r2 h hs
      injection h with h
      obtain ⟨⟨lz, h1⟩, h2⟩ := lazy_facts h
      have h3 := h2.trans hs
      have := sfx_len h3
      exact .inr ⟨⟨lo, hi, lz, h1⟩, sfx_cons h3, by simp; omega⟩
    by_cases h1 : c = [42]
    · rw [if_pos h1] at h; exact key h (List.suffix_refl _)
    rw [if_neg h1] at h
    by_cases h2 : c = [43]
    · rw [if_pos h2] at h; exact key h (List.suffix_refl _)
    rw [if_neg h2] at h
    by_cases h3 : c = [63]
    · rw [if_pos h3] at h; exact key h (List.suffix_refl _)
    rw [if_neg h3] at h
    by_cases h4 : c = [123]
    · rw [if_pos h4] at h
      cases hb : boundsM r with
      | none => simp only [hb] at h; cases h
      | some z =>
        obtain ⟨lo, hi, r2⟩ := z
        simp only [hb] at h
        exact key h (bounds_sfx hb)
    · rw [if_neg h4] at h
      injection h with h; injection h with h5 h6
      exact .inl ⟨h5.symm, h6.symm⟩
end Go.Proofs.Ytemophfieihgaaa
namespace Go.Proofs.Ytemophfieihgaaa
theorem partsL_app : ∀ (a b : List Rx), Rx.partsL (a ++ b) = Rx.partsL a + Rx.partsL b
  | [], b => by simp [Rx.partsL]
  | x :: a, b => by simp only [List.cons_append, Rx.partsL, partsL_app a b]; omega
theorem groupsL_app : ∀ (a b : List Rx), Rx.groupsL (a ++ b) = Rx.groupsL a + Rx.groupsL b
  | [], b => by simp [Rx.groupsL]
  | x :: a, b => by simp only [List.cons_append, Rx.groupsL, groupsL_app a b]; omega
theorem smallL_app : ∀ {a b : List Rx}, Rx.smallL a → Rx.smallL b → Rx.smallL (a ++ b)
  | [], _, _, h => h
  | _ :: _, _, h1, h2 => ⟨h1.1, smallL_app h1.2 h2⟩
theorem flatL_cons (kd : Int) (x : Rx) (xs : List Rx) : flatL kd (x :: xs) = (if x.kind = kd then x.kids else [x]) ++ flatL kd xs := by simp [flatL]
theorem kids_facts (x : Rx) (hs : x.small) : Rx.partsL x.kids + 1 = x.parts ∧ Rx.groupsL x.kids ≤ x.groups ∧ Rx.smallL x.kids := by
  obtain ⟨k, c, ng, rs, lo, hi, lz, ks⟩ := x
  simp only [Rx.kids, Rx.parts, Rx.groups]
  exact ⟨by omega, by omega, hs.2⟩
theorem flat_facts (kd : Int) : ∀ {xs : List Rx}, Rx.smallL xs → Rx.smallL (flatL kd xs) ∧ Rx.partsL (flatL kd xs) ≤ Rx.partsL xs ∧ Rx.groupsL (flatL kd xs) ≤ Rx.groupsL xs
  | [], _ => ⟨trivial, Nat.le_refl _, Nat.le_refl _⟩
  | x :: xs, h => by
    obtain ⟨i1, i2, i3⟩ := flat_facts kd h.2
    obtain ⟨k1, k2, k3⟩ := kids_facts x h.1
    rw [flatL_cons, partsL_app, groupsL_app]
    simp only [Rx.partsL, Rx.groupsL]
    by_cases hk : x.kind = kd
    · rw [if_pos hk]; exact ⟨smallL_app k3 i1, by omega, by omega⟩
    · rw [if_neg hk]; exact ⟨smallL_app ⟨h.1, trivial⟩ i1, by simp only [Rx.partsL]; omega, by simp only [Rx.groupsL]; omega⟩
theorem small_list {k : Int} (hk : k ≠ 5) {l : List Rx} (h : Rx.smallL l) (hl : l.length ≤ 1000000) : (Rx.mk k [] false [] 0 0 false l).small ∧ (Rx.mk k [] false [] 0 0 false l).parts = 1 + Rx.partsL l ∧ (Rx.mk k [] false [] 0 0 false l).groups = Rx.groupsL l := by
  simp only [Rx.small, Rx.small1, Rx.parts, Rx.groups, if_neg hk]
  exact ⟨⟨⟨by simp, by simp, by simp, hl⟩, h⟩, trivial, by omega⟩
theorem seqR_facts {xs : List Rx} (h : Rx.smallL xs) (hp : Rx.partsL xs ≤ 1000000) : (seqR xs).small ∧ (seqR xs).parts ≤ 1 + Rx.partsL xs ∧ (seqR xs).groups ≤ Rx.groupsL xs := by
  obtain ⟨f1, f2, f3⟩ := flat_facts 0 h
  have hl := Rx.len_parts (flatL 0 xs)
  have gen : ∀ l : List Rx, flatL 0 xs = l → (kind0 l).small ∧ (kind0 l).parts ≤ 1 + Rx.partsL xs ∧ (kind0 l).groups ≤ Rx.groupsL xs := by
    rintro l rfl
    obtain ⟨s1, s2, s3⟩ := small_list (k := 0) (by decide) f1 (by omega)
    exact ⟨s1, by unfold kind0; omega, by unfold kind0; omega⟩
  unfold seqR
  split
  · rename_i y hy
    rw [hy] at f1 f2 f3
    simp only [Rx.partsL, Rx.groupsL] at f2 f3
    exact ⟨f1.1, by omega, by omega⟩
  · rename_i l hl; exact gen _ rfl
theorem altR_facts {xs : List Rx} (h : Rx.smallL xs) (hp : Rx.partsL xs ≤ 1000000) : (altR xs).small ∧ (altR xs).parts ≤ 1 + Rx.partsL xs ∧ (altR xs).groups ≤ Rx.groupsL xs := by
  obtain ⟨f1, f2, f3⟩ := flat_facts 1 h
  have hl := Rx.len_parts (flatL 1 xs)
  unfold altR
  split
  · obtain ⟨s1, s2, s3⟩ := small_list (k := 0) (l := []) (by decide) trivial (by simp)
    exact ⟨s1, by unfold kind0; simp only [Rx.partsL] at s2; omega, by unfold kind0; simp only [Rx.groupsL] at s3; omega⟩
  · rename_i y hy
    rw [hy] at f1 f2 f3
    simp only [Rx.partsL, Rx.groupsL] at f2 f3
    exact ⟨f1.1, by omega, by omega⟩
  · obtain ⟨s1, s2, s3⟩ := small_list (k := 1) (by decide) f1 (by omega)
    exact ⟨s1, by unfold kind1; omega, by unfold kind1; omega⟩
theorem altR_one {x : Rx} (hs : x.small) : (altR [x]).small ∧ (altR [x]).parts ≤ x.parts ∧ (altR [x]).groups ≤ x.groups := by
  obtain ⟨k1, k2, k3⟩ := kids_facts x hs
  obtain ⟨k, c, ng, rs, lo, hi, lz, ks⟩ := x
  have hks := hs.1.2.2.2
  have hfl : flatL 1 [Rx.mk k c ng rs lo hi lz ks] = if k = 1 then ks else [.mk k c ng rs lo hi lz ks] := by by_cases hk : k = 1 <;> simp [flatL, Rx.kind, Rx.kids, hk]
  simp only [Rx.kids] at k1 k2 k3
  unfold altR
  rw [hfl]
  by_cases h1 : k = 1
  · rw [if_pos h1]
    rcases ks with _ | ⟨y, _ | ⟨z, l⟩⟩
    · obtain ⟨s1, s2, s3⟩ := small_list (k := 0) (l := []) (by decide) trivial (by simp)
      exact ⟨s1, by show (kind0 []).parts ≤ _; unfold kind0; simp only [Rx.partsL] at s2 k1; omega, by show (kind0 []).groups ≤ _; unfold kind0; simp only [Rx.groupsL] at s3 k2; omega⟩
    · simp only [Rx.partsL, Rx.groupsL] at k1 k2
      exact ⟨k3.1, by show y.parts ≤ _; omega, by show y.groups ≤ _; omega⟩
    · obtain ⟨s1, s2, s3⟩ := small_list (k := 1) (l := y :: z :: l) (by decide) k3 hks
      exact ⟨s1, by show (kind1 (y :: z :: l)).parts ≤ _; unfold kind1; omega, by show (kind1 (y :: z :: l)).groups ≤ _; unfold kind1; omega⟩
  · rw [if_neg h1]
    exact ⟨hs, Nat.le_refl _, Nat.le_refl _⟩
theorem groupK_sfx {r r0 : List Str} {k : Int} (h : groupK r = some (k, r0)) : r0 <:+ r ∧ (k = 5 ∨ k = 6) := by
  unfold groupK at h
  cases h1 : takeM [63] r with
  | none => simp only [h1] at h; injection h with h; injection h with ha hb; subst ha hb; exact ⟨List.suffix_refl _, .inl rfl⟩
  | some r1 =>
    simp only [h1] at h
    cases h2 : takeM [58] r1 with
    | none => simp only [h2] at h; cases h
    | some r2 =>
      simp only [h2] at h; injection h with h; injection h with ha hb; subst ha hb
      exact ⟨(takeM_sfx h2).trans (takeM_sfx h1), .inr rfl⟩
def PatFacts (pat : List Str → Nat → Res) (N : Nat) : Prop := ∀ (r : List Str) (d : Nat) (x : Rx) (r1 : List Str), r.length ≤ N → pat r d = .ok (x, r1) → okC r → Fct 1 r x r1
theorem group_facts {pat : List Str → Nat → Res} {N : Nat} (hp : PatFacts pat N) {r r1 : List Str} {d : Nat} {x : Rx} (h : groupM pat r d = .ok (x, r1)) (ho : okC r) (hN : r.length ≤ N) :
    x.small ∧ x.parts + 2 * r1.length ≤ 2 * r.length ∧ x.groups + r1.count [40] ≤ 1 + r.count [40] ∧ r1 <:+ r := by
  unfold groupM at h
  by_cases hd : 16 ≤ d
  · rw [if_pos hd] at h; cases h
  rw [if_neg hd] at h
  cases hk : groupK r with
  | none => simp only [hk] at h; cases h
  | some y =>
    obtain ⟨k, r0⟩ := y
    obtain ⟨k1, k2⟩ := groupK_sfx hk
    simp only [hk] at h
    cases hx : pat r0 (d + 1) with
    | error e => simp only [hx] at h; cases h
    | ok y =>
      obtain ⟨z, r2⟩ := y
      simp only [hx] at h
      have hl0 := sfx_len k1
      obtain ⟨f1, f2, f3, f4⟩ := hp r0 (d + 1) z r2 (by omega) hx (sfx_ok k1 ho)
      cases ht : takeM [41] r2 with
      | none => simp only [ht] at h; cases h
      | some r3 =>
        simp only [ht] at h
        injection h with h; injection h with h1 h2; subst h1 h2
        have e := takeM_some ht
        have s3 := takeM_sfx ht
        have c1 := sfx_count s3 [40]
        have c2 := sfx_count k1 [40]
        refine ⟨?_, ?_, ?_, (s3.trans f4).trans k1⟩
        · simp only [grpR, Rx.small, Rx.small1, Rx.smallL]; exact ⟨⟨by simp, by simp, by simp, by simp⟩, f1, trivial⟩
        · simp only [grpR, Rx.parts, Rx.partsL]; rw [e, List.length_cons] at f2; omega
        · simp only [grpR, Rx.groups, Rx.groupsL]; split <;> omega
theorem atom_facts {pat : List Str → Nat → Res} {N : Nat} (hp : PatFacts pat N) {r r1 : List Str} {d : Nat} {x : Rx} (h : atomM pat r d = .ok (x, r1)) (ho : okC r) (hN : r.length ≤ N + 1) (hN2 : N ≤ 200000) :
    x.small ∧ x.parts + 2 * r1.length ≤ 2 * r.length ∧ x.groups + r1.count [40] ≤ r.count [40] ∧ r1 <:+ r ∧ r1.length < r.length ∧ x.parts + 2 * r1.length + (if x.parts = 1 then 1 else 2) ≤ 2 * r.length := by
  cases r with
  | nil => cases h
  | cons c r =>
    have hc := ho c (List.mem_cons_self ..)
    simp only [List.length_cons] at hN
    have leaf : ∀ {y : Rx} {r2 : List Str}, Fct 0 (c :: r) y r2 → y.parts = 1 → r2.length < (c :: r).length → y.small ∧ y.parts + 2 * r2.length ≤ 2 * (c :: r).length ∧ y.groups + r2.count [40] ≤ (c :: r).count [40] ∧ r2 <:+ c :: r ∧ r2.length < (c :: r).length ∧ y.parts + 2 * r2.length + (if y.parts = 1 then 1 else 2) ≤ 2 * (c :: r).length :=
      fun hf h1 hl => ⟨hf.1, by have := hf.2.1; omega, hf.2.2.1, hf.2.2.2, hl, by rw [if_pos h1, h1]; omega⟩
    have lift : ∀ {y : Rx} {r2 : List Str}, Fct 0 r y r2 → y.parts = 1 → r2.length ≤ r.length → y.small ∧ y.parts + 2 * r2.length ≤ 2 * (c :: r).length ∧ y.groups + r2.count [40] ≤ (c :: r).count [40] ∧ r2 <:+ c :: r ∧ r2.length < (c :: r).length ∧ y.parts + 2 * r2.length + (if y.parts = 1 then 1 else 2) ≤ 2 * (c :: r).length :=
      fun hf h1 hl => leaf ⟨hf.1, by simp only [List.length_cons]; have := hf.2.1; omega, by have := hf.2.2.1; have := sfx_count (List.suffix_cons c r) [40]; omega, sfx_cons hf.2.2.2⟩ h1 (by simp; omega)
    simp only [atomM] at h
    by_cases h1 : c = [46]
    · rw [if_pos h1] at h; injection h with h; injection h with ha hb; subst ha hb
      exact leaf (Fct.leaf (by simp) (by simp) rowsOk_nil (by decide) (List.suffix_cons _ _) (by simp)) rfl (by simp)
    rw [if_neg h1] at h
    by_cases h2 : c = [40]
    · rw [if_pos h2] at h
      obtain ⟨f1, f2, f3, f4⟩ := group_facts hp h ho.tail (by omega)
      have hlen := sfx_len f4
      refine ⟨f1, by simp; omega, ?_, sfx_cons f4, by simp; omega, by simp only [List.length_cons]; split <;> omega⟩
      rw [h2, List.count_cons_self]; omega
    rw [if_neg h2] at h
    by_cases h3 : c = [91]
    · rw [if_pos h3] at h
      have hf := class_facts h ho.tail (by omega)
      have hp1 : x.parts = 1 := by
        unfold classM at h
        simp only at h
        generalize classL _ _ _ = q at h
        cases q with
        | none => simp only at h; cases h
        | some y => simp only at h; injection h with h; injection h with ha _; subst ha; rfl
      exact lift hf hp1 (sfx_len hf.2.2.2)
    rw [if_neg h3] at h
    by_cases h4 : c = [92]
    · rw [if_pos h4] at h
      have hf := esc_facts h ho.tail
      have hp1 : x.parts = 1 := by
        cases r with
        | nil => cases h
        | cons c2 r2 =>
          simp only [escM] at h
          cases hn : namedS c2 with
          | some rows => simp only [hn] at h; injection h with h; injection h with ha _; subst ha; rfl
          | none =>
            simp only [hn] at h
            cases hb : bigS c2 with
            | some rows => simp only [hb] at h; injection h with h; injection h with ha _; subst ha; rfl
            | none =>
              simp only [hb] at h
              cases hpm : plainM c2 with
              | none => simp only [hpm] at h; cases h
              | some t => simp only [hpm] at h; injection h with h; injection h with ha _; subst ha; rfl
      exact lift hf hp1 (sfx_len hf.2.2.2)
    rw [if_neg h4] at h
    by_cases h5 : noAtom c = true
    · rw [if_pos h5] at h; cases h
    · rw [if_neg h5] at h; injection h with h; injection h with ha hb; subst ha hb
      exact leaf (Fct.leaf hc.2 (by simp) rowsOk_nil (by decide) (List.suffix_cons _ _) (by simp)) rfl (by simp)
theorem edge_facts {r r1 : List Str} {x : Rx} (h : edgeM r = some (x, r1)) : Fct 0 r x r1 ∧ r1.length < r.length := by
  cases r with
  | nil => cases h
  | cons c r =>
    have leaf : ∀ (k : Int) (r2 : List Str), k ≠ 5 → r2 <:+ r → Fct 0 (c :: r) (rxK k) r2 ∧ r2.length < (c :: r).length := fun k r2 hk hs =>
      ⟨Fct.leaf (by simp) (by simp) rowsOk_nil hk (sfx_cons hs) (by have := sfx_len hs; simp; omega), by have := sfx_len hs; simp; omega⟩
    simp only [edgeM] at h
    by_cases h1 : c = [94]
    · rw [if_pos h1] at h; injection h with h; injection h with ha hb; subst ha hb; exact leaf 8 r (by decide) (List.suffix_refl _)
    rw [if_neg h1] at h
    by_cases h2 : c = [36]
    · rw [if_pos h2] at h; injection h with h; injection h with ha hb; subst ha hb; exact leaf 9 r (by decide) (List.suffix_refl _)
    rw [if_neg h2] at h
    by_cases h3 : c = [92]
    · rw [if_pos h3] at h
      cases h4 : takeM [98] r with
      | some r2 => simp only [h4] at h; injection h with h; injection h with ha hb; subst ha hb; exact leaf 10 r2 (by decide) (takeM_sfx h4)
      | none =>
        simp only [h4] at h
        cases h5 : takeM [66] r with
        | some r2 => simp only [h5] at h; injection h with h; injection h with ha hb; subst ha hb; exact leaf 11 r2 (by decide) (takeM_sfx h5)
        | none => simp only [h5] at h; cases h
    · rw [if_neg h3] at h; cases h
theorem term_facts {pat : List Str → Nat → Res} {N : Nat} (hp : PatFacts pat N) {r r1 : List Str} {d : Nat} {x : Rx} (h : termM pat r d = .ok (x, r1)) (ho : okC r) (hN : r.length ≤ N + 1) (hN2 : N ≤ 200000) : Fct 0 r x r1 ∧ r1.length < r.length := by
  unfold termM at h
  cases he : edgeM r with
  | some y => simp only [he] at h; injection h with h; subst h; exact edge_facts he
  | none =>
    simp only [he] at h
    cases ha : atomM pat r d with
    | error e => simp only [ha] at h; cases h
    | ok y =>
      obtain ⟨z, r2⟩ := y
      simp only [ha] at h
      obtain ⟨f1, f2, f3, f4, f5, f6⟩ := atom_facts hp ha ho hN hN2
      rcases quant_facts h with ⟨rfl, rfl⟩ | ⟨⟨lo, hi, lz, rfl⟩, q2, q3⟩
      · exact ⟨⟨f1, by omega, f3, f4⟩, f5⟩
      · have c1 := sfx_count q2 [40]
        refine ⟨⟨small_rep f1, ?_, ?_, q2.trans f4⟩, by omega⟩
        · simp only [repR, Rx.parts, Rx.partsL]; omega
        · simp only [repR, Rx.groups, Rx.groupsL]; simp; omega
theorem patL_facts {trm : List Str → Res} {N : Nat} (ht : ∀ (r : List Str) (x : Rx) (r1 : List Str), r.length ≤ N → trm r = .ok (x, r1) → okC r → Fct 0 r x r1 ∧ r1.length < r.length) (hN2 : N ≤ 200000) :
    ∀ (n : Nat) (alts terms : List Rx) (r : List Str) {x : Rx} {r1 : List Str}, patL trm n alts terms r = .ok (x, r1) → okC r → r.length ≤ N → Rx.smallL alts → Rx.smallL terms → Rx.partsL alts + Rx.partsL terms + 2 * r.length ≤ 450000 →
      x.small ∧ x.parts + 2 * r1.length ≤ 2 * r.length + (if alts = [] then 1 + Rx.partsL terms else Rx.partsL alts + Rx.partsL terms + 2) ∧ x.groups + r1.count [40] ≤ r.count [40] + Rx.groupsL alts + Rx.groupsL terms ∧ r1 <:+ r
  | 0, _, _, _, _, _, h, _, _, _, _, _ => by cases h
  | n + 1, alts, terms, r, x, r1, h, ho, hr, ha, hm, hb => by
    obtain ⟨s1, s2, s3⟩ := seqR_facts hm (by omega)
    have hap := smallL_app ha (show Rx.smallL [seqR terms] from ⟨s1, trivial⟩)
    have hpp : Rx.partsL (alts ++ [seqR terms]) = Rx.partsL alts + (seqR terms).parts := by rw [partsL_app]; simp only [Rx.partsL]; omega
    have hgg : Rx.groupsL (alts ++ [seqR terms]) = Rx.groupsL alts + (seqR terms).groups := by rw [groupsL_app]; simp only [Rx.groupsL]; omega
    have fin : (altR (alts ++ [seqR terms])).small ∧ (altR (alts ++ [seqR terms])).parts ≤ (if alts = [] then 1 + Rx.partsL terms else Rx.partsL alts + Rx.partsL terms + 2) ∧ (altR (alts ++ [seqR terms])).groups ≤ Rx.groupsL alts + Rx.groupsL terms := by
      by_cases hn : alts = []
      · subst hn
        obtain ⟨o1, o2, o3⟩ := altR_one s1
        rw [if_pos rfl]
        exact ⟨o1, by show (altR [seqR terms]).parts ≤ _; omega, by show (altR [seqR terms]).groups ≤ _; simp only [Rx.groupsL]; omega⟩
      · rw [if_neg hn]
        obtain ⟨o1, o2, o3⟩ := altR_facts hap (by omega)
        exact ⟨o1, by omega, by omega⟩
    simp only [patL] at h
    cases r with
    | nil =>
      simp only at h
      injection h with h; injection h with h1 h2; subst h1 h2
      exact ⟨fin.1, by have := fin.2.1; simp; omega, by have := fin.2.2; simp; omega, List.suffix_refl _⟩
    | cons c r =>
      simp only at h
      simp only [List.length_cons] at hr hb
      by_cases h1 : c = [41]
      · rw [if_pos h1] at h
        injection h with h; injection h with h2 h3; subst h2 h3
        exact ⟨fin.1, by have := fin.2.1; omega, by have := fin.2.2; omega, List.suffix_refl _⟩
      rw [if_neg h1] at h
      by_cases h2 : c = [124]
      · rw [if_pos h2] at h
        obtain ⟨i1, i2, i3, i4⟩ := patL_facts ht hN2 n _ _ _ h ho.tail (by omega) hap trivial (by rw [hpp]; simp only [Rx.partsL]; omega)
        have c1 := sfx_count (List.suffix_cons c r) [40]
        rw [if_neg (by simp), hpp] at i2
        rw [hgg] at i3
        simp only [Rx.partsL, Rx.groupsL] at i2 i3
        refine ⟨i1, ?_, by omega, sfx_cons i4⟩
        simp only [List.length_cons]
        by_cases hn : alts = []
        · subst hn; rw [if_pos rfl]; simp only [Rx.partsL] at i2; omega
        · rw [if_neg hn]; omega
      · rw [if_neg h2] at h
        cases hx : trm (c :: r) with
        | error e => simp only [hx] at h; cases h
        | ok y =>
          obtain ⟨z, r2⟩ := y
          simp only [hx] at h
          obtain ⟨⟨f1, f2, f3, f4⟩, f5⟩ := ht _ _ _ (by simp; omega) hx ho
          simp only [List.length_cons] at f2 f5
          have hpt : Rx.partsL (terms ++ [z]) = Rx.partsL terms + z.parts := by rw [partsL_app]; simp only [Rx.partsL]; omega
          have hgt : Rx.groupsL (terms ++ [z]) = Rx.groupsL terms + z.groups := by rw [groupsL_app]; simp only [Rx.groupsL]; omega
          obtain ⟨i1, i2, i3, i4⟩ := patL_facts ht hN2 n _ _ _ h (sfx_ok f4 ho) (by omega) ha (smallL_app hm ⟨f1, trivial⟩) (by rw [hpt]; omega)
          rw [hpt] at i2
          rw [hgt] at i3
          refine ⟨i1, ?_, by omega, i4.trans f4⟩
          simp only [List.length_cons]
          split at i2
          · rename_i hn; rw [if_pos hn]; omega
          · rename_i hn; rw [if_neg hn]; omega
theorem pat_facts : ∀ (n : Nat), PatFacts (patF n) 200000
  | 0 => fun r d x r1 _ h _ => by cases h
  | n + 1 => fun r d x r1 hr h ho => by
    have ih := pat_facts n
    have ht : ∀ (r : List Str) (x : Rx) (r1 : List Str), r.length ≤ 200000 → termM (patF n) r d = .ok (x, r1) → okC r → Fct 0 r x r1 ∧ r1.length < r.length := fun r x r1 hr h ho => term_facts ih h ho (by omega) (by omega)
    obtain ⟨i1, i2, i3, i4⟩ := patL_facts ht (by omega) _ [] [] r h ho hr trivial trivial (by simp only [Rx.partsL]; omega)
    rw [if_pos rfl] at i2
    simp only [Rx.partsL, Rx.groupsL] at i2 i3
    exact ⟨i1, by omega, by omega, i4⟩
end Go.Proofs.Ytemophfieihgaaa
