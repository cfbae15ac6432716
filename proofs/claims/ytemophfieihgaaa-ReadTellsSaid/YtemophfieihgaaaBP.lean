/- A reading goes on the same with more behind it; the fuel does not matter. · A reading goes on the same with more behind it: atoms, terms, patterns; the fuel. · Two texts side by side, or with | between: on the characters. · Two texts side by side, with | between, in brackets: what is read of them. -/
import Derived.Test.YtemophfieihgaaaPG
import Derived.Test.YtemophfieihgaaaBX
set_option maxRecDepth 100000
namespace Go.Proofs.Ytemophfieihgaaa
theorem takeM_app {c : Str} {r r1 : List Str} (z : List Str) (h : takeM c r = some r1) : takeM c (r ++ z) = some (r1 ++ z) := by
  rw [takeM_some h]; simp [takeM]
theorem takeM_app0 {c : Str} {r : List Str} (z : List Str) (h : takeM c r = none) (hr : r ≠ []) : takeM c (r ++ z) = none := by
  cases r with
  | nil => exact absurd rfl hr
  | cons p r =>
    simp only [takeM] at h
    by_cases hp : p = c
    · rw [if_pos hp] at h; cases h
    · simp only [List.cons_append, takeM, if_neg hp]
theorem item_app {r r1 : List Str} {c : Str} {nm : List Row} (z : List Str) (h : itemM r = some (c, nm, r1)) : itemM (r ++ z) = some (c, nm, r1 ++ z) := by
  cases r with
  | nil => cases h
  | cons p r =>
    simp only [itemM, List.cons_append] at h ⊢
    by_cases h1 : p = [93]
    · rw [if_pos h1] at h; cases h
    rw [if_neg h1] at h ⊢
    by_cases h2 : p = [92]
    · rw [if_pos h2] at h ⊢
      cases r with
      | nil => cases h
      | cons c2 r2 =>
        simp only [List.cons_append] at h ⊢
        cases hn : namedS c2 with
        | some rows =>
          simp only [hn] at h ⊢
          injection h with h; injection h with h3 h; injection h with h4 h5
          subst h3 h4 h5; rfl
        | none =>
          simp only [hn] at h ⊢
          cases hpm : plainM c2 with
          | none => simp only [hpm] at h; cases h
          | some t =>
            simp only [hpm] at h ⊢
            injection h with h; injection h with h3 h; injection h with h4 h5
            subst h3 h4 h5; rfl
    · rw [if_neg h2] at h ⊢
      injection h with h; injection h with h3 h; injection h with h4 h5
      subst h3 h4 h5; rfl
theorem classL_ne {n : Nat} {rows rows' : List Row} {r r1 : List Str} (h : classL n rows r = some (rows', r1)) : r ≠ [] := by
  rintro rfl
  cases n with
  | zero => cases h
  | succ n => simp only [classL, takeM, itemM] at h; cases h
theorem item_none_nil : itemM [] = none := rfl
/-- .. with as much fuel or more. -/
theorem classL_app (z : List Str) : ∀ (n m : Nat) (rows : List Row) (r : List Str) {rows' : List Row} {r1 : List Str}, n ≤ m → classL n rows r = some (rows', r1) → classL m rows (r ++ z) = some (rows', r1 ++ z)
  | 0, _, _, _, _, _, _, h => by cases h
  | n + 1, m, rows, r, rows', r1, hm, h => by
    obtain ⟨m, rfl⟩ : ∃ m', m = m' + 1 := ⟨m - 1, by omega⟩
    have hm' : n ≤ m := by omega
    have hr := classL_ne h
    simp only [classL] at h ⊢
    cases ht : takeM [93] r with
    | some r0 =>
      simp only [ht] at h
      rw [takeM_app z ht]
      injection h with h; injection h with h1 h2
      subst h1 h2; rfl
    | none =>
      simp only [ht] at h
      rw [takeM_app0 z ht hr]
      cases hi : itemM r with
      | none => simp only [hi] at h; cases h
      | some y =>
        obtain ⟨c, nm, r2⟩ := y
        simp only [hi] at h
        simp only [item_app z hi]
        by_cases hnm : nm ≠ []
        · rw [if_pos hnm] at h ⊢
          exact classL_app z n m _ _ hm' h
        · rw [if_neg hnm] at h ⊢
          cases ht2 : takeM [45] r2 with
          | none =>
            simp only [ht2] at h
            simp only [takeM_app0 z ht2 (classL_ne h)]
            exact classL_app z n m _ _ hm' h
          | some r3 =>
            simp only [ht2] at h
            simp only [takeM_app z ht2]
            by_cases ht3 : takeM [93] r3 = none
            · rw [if_pos ht3] at h
              cases hi2 : itemM r3 with
              | none => simp only [hi2] at h; cases h
              | some y =>
                obtain ⟨t, nm2, r4⟩ := y
                simp only [hi2] at h
                have h3 : r3 ≠ [] := by rintro rfl; cases hi2
                rw [if_pos (takeM_app0 z ht3 h3)]
                simp only [item_app z hi2]
                by_cases hb : nm2 ≠ [] ∨ Op.bytesLess t c = true
                · rw [if_pos hb] at h; cases h
                · rw [if_neg hb] at h ⊢
                  exact classL_app z n m _ _ hm' h
            · rw [if_neg ht3] at h
              obtain ⟨r5, h5⟩ : ∃ r5, takeM [93] r3 = some r5 := by
                cases hx : takeM [93] r3 with
                | none => exact absurd hx ht3
                | some r5 => exact ⟨r5, rfl⟩
              rw [if_neg (by rw [takeM_app z h5]; simp)]
              exact classL_app z n m _ _ hm' h
theorem class_app {r r1 : List Str} {x : Rx} (z : List Str) (h : classM r = .ok (x, r1)) : classM (r ++ z) = .ok (x, r1 ++ z) := by
  unfold classM at h ⊢
  simp only at h ⊢
  have hr : r ≠ [] := by rintro rfl; simp [takeM, classL, itemM] at h
  cases ht : takeM [94] r with
  | some r0 =>
    rw [takeM_app z ht]
    simp only [ht, Option.isSome_some, Option.getD_some] at h ⊢
    cases hc : classL (r0.length + 1) [] r0 with
    | none => simp only [hc] at h; cases h
    | some y =>
      obtain ⟨rows, r2⟩ := y
      simp only [hc] at h
      injection h with h; injection h with h1 h2; subst h1 h2
      rw [classL_app z _ ((r0 ++ z).length + 1) _ _ (by simp) hc]
  | none =>
    rw [takeM_app0 z ht hr]
    simp only [ht, Option.isSome_none, Option.getD_none] at h ⊢
    cases hc : classL (r.length + 1) [] r with
    | none => simp only [hc] at h; cases h
    | some y =>
      obtain ⟨rows, r2⟩ := y
      simp only [hc] at h
      injection h with h; injection h with h1 h2; subst h1 h2
      rw [classL_app z _ ((r ++ z).length + 1) _ _ (by simp) hc]
theorem esc_app {r r1 : List Str} {x : Rx} (z : List Str) (h : escM r = .ok (x, r1)) : escM (r ++ z) = .ok (x, r1 ++ z) := by
  cases r with
  | nil => cases h
  | cons c r =>
    simp only [escM, List.cons_append] at h ⊢
    cases hn : namedS c with
    | some rows => simp only [hn] at h ⊢; injection h with h; injection h with h1 h2; subst h1 h2; rfl
    | none =>
      simp only [hn] at h ⊢
      cases hb : bigS c with
      | some rows => simp only [hb] at h ⊢; injection h with h; injection h with h1 h2; subst h1 h2; rfl
      | none =>
        simp only [hb] at h ⊢
        cases hp : plainM c with
        | none => simp only [hp] at h; cases h
        | some t => simp only [hp] at h ⊢; injection h with h; injection h with h1 h2; subst h1 h2; rfl
theorem numL_app (z : List Str) : ∀ (r : List Str) (k n : Nat) {m : Nat} {r1 : List Str}, numL k n r = some (m, r1) → r1 ≠ [] → numL k n (r ++ z) = some (m, r1 ++ z)
  | [], k, n, m, r1, h, hr => by
    unfold numL at h
    split at h
    · injection h with h; injection h with _ h; exact absurd h.symm hr
    · cases h
  | c :: r, k, n, m, r1, h, hr => by
    simp only [numL, List.cons_append] at h ⊢
    cases hd : digS c with
    | some d =>
      simp only [hd] at h ⊢
      by_cases hk : k = 3
      · rw [if_pos hk] at h; cases h
      · rw [if_neg hk] at h ⊢; exact numL_app z r _ _ h hr
    | none =>
      simp only [hd] at h ⊢
      by_cases hc : 0 < k ∧ n ≤ 255
      · rw [if_pos hc] at h ⊢; injection h with h; injection h with h1 h2; subst h1 h2; rfl
      · rw [if_neg hc] at h; cases h
theorem bounds_app {r r1 : List Str} {lo hi : Int} (z : List Str) (h : boundsM r = some (lo, hi, r1)) : boundsM (r ++ z) = some (lo, hi, r1 ++ z) := by
  unfold boundsM at h ⊢
  cases h1 : numL 0 0 r with
  | none => simp only [h1] at h; cases h
  | some y =>
    obtain ⟨a, s1⟩ := y
    simp only [h1] at h
    have hs1 : s1 ≠ [] := by rintro rfl; simp [takeM] at h
    simp only [numL_app z r _ _ h1 hs1]
    cases h2 : takeM [125] s1 with
    | some s2 =>
      simp only [h2] at h
      simp only [takeM_app z h2]
      injection h with h; injection h with h3 h; injection h with h4 h; subst h3 h4 h; rfl
    | none =>
      simp only [h2] at h
      simp only [takeM_app0 z h2 hs1]
      cases h3 : takeM [44] s1 with
      | none => simp only [h3] at h; cases h
      | some s2 =>
        simp only [h3] at h
        simp only [takeM_app z h3]
        have hs2 : s2 ≠ [] := by rintro rfl; simp [takeM, numL] at h
        cases h4 : takeM [125] s2 with
        | some s3 =>
          simp only [h4] at h
          simp only [takeM_app z h4]
          injection h with h; injection h with h5 h; injection h with h6 h; subst h5 h6 h; rfl
        | none =>
          simp only [h4] at h
          simp only [takeM_app0 z h4 hs2]
          cases h5 : numL 0 0 s2 with
          | none => simp only [h5] at h; cases h
          | some y =>
            obtain ⟨b, s3⟩ := y
            simp only [h5] at h
            by_cases hle : a ≤ b
            · rw [if_pos (by omega)] at h
              have hs3 : s3 ≠ [] := by rintro rfl; simp [takeM] at h
              simp only [numL_app z s2 _ _ h5 hs3]
              rw [if_pos (by omega)]
              cases h6 : takeM [125] s3 with
              | none => simp only [h6] at h; cases h
              | some s4 =>
                simp only [h6] at h
                simp only [takeM_app z h6]
                injection h with h; injection h with h7 h; injection h with h8 h; subst h7 h8 h; rfl
            · rw [if_neg (by omega)] at h; cases h
/-- No sign of how often stands ahead. -/
def noQ : List Str → Prop
  | [] => True
  | c :: _ => c ≠ [42] ∧ c ≠ [43] ∧ c ≠ [63] ∧ c ≠ [123]
theorem noQ_take {z : List Str} (h : noQ z) : takeM [63] z = none := by
  cases z with
  | nil => rfl
  | cons c z => simp only [takeM, if_neg h.2.2.1]
theorem lazy_app {x y : Rx} {lo hi : Int} {r r1 : List Str} (z : List Str) (h : lazyM x lo hi r = (y, r1)) (hz : r1 ≠ [] ∨ noQ z) : lazyM x lo hi (r ++ z) = (y, r1 ++ z) := by
  unfold lazyM at h ⊢
  cases ht : takeM [63] r with
  | some r2 =>
    simp only [ht] at h
    simp only [takeM_app z ht]
    injection h with h1 h2; subst h1 h2; rfl
  | none =>
    simp only [ht] at h
    injection h with h1 h2; subst h1 h2
    have : takeM [63] (r ++ z) = none := by
      by_cases hr : r = []
      · subst hr; exact noQ_take (hz.resolve_left (fun q => q rfl))
      · exact takeM_app0 z ht hr
    simp only [this]
theorem quant_app {x y : Rx} {r r1 : List Str} (z : List Str) (h : quantM x r = .ok (y, r1)) (hz : r1 ≠ [] ∨ noQ z) : quantM x (r ++ z) = .ok (y, r1 ++ z) := by
  cases r with
  | nil =>
    simp only [quantM] at h
    injection h with h; injection h with h1 h2; subst h1 h2
    have hq := hz.resolve_left (fun q => q rfl)
    cases z with
    | nil => rfl
    | cons c z => simp only [List.nil_append, quantM, if_neg hq.1, if_neg hq.2.1, if_neg hq.2.2.1, if_neg hq.2.2.2]
  | cons c r =>
    simp only [quantM, List.cons_append] at h ⊢
    have key : ∀ {lo hi : Int} {r2 : List Str}, Except.ok (lazyM x lo hi r2) = (Except.ok (y, r1) : Res) → Except.ok (lazyM x lo hi (r2 ++ z)) = (Except.ok (y, r1 ++ z) : Res) := by
      intro lo hi r2 h
      injection h with h
      rw [lazy_app z h hz]
    by_cases h1 : c = [42]
    · rw [if_pos h1] at h ⊢; exact key h
    rw [if_neg h1] at h ⊢
    by_cases h2 : c = [43]
    · rw [if_pos h2] at h ⊢; exact key h
    rw [if_neg h2] at h ⊢
    by_cases h3 : c = [63]
    · rw [if_pos h3] at h ⊢; exact key h
    rw [if_neg h3] at h ⊢
    by_cases h4 : c = [123]
    · rw [if_pos h4] at h ⊢
      cases hb : boundsM r with
      | none => simp only [hb] at h; cases h
      | some w =>
        obtain ⟨lo, hi, r2⟩ := w
        simp only [hb] at h
        simp only [bounds_app z hb]
        exact key h
    · rw [if_neg h4] at h ⊢
      injection h with h; injection h with h5 h6; subst h5 h6; rfl
theorem groupK_app {r r0 : List Str} {k : Int} (z : List Str) (h : groupK r = some (k, r0)) (hr : r ≠ []) : groupK (r ++ z) = some (k, r0 ++ z) := by
  unfold groupK at h ⊢
  cases h1 : takeM [63] r with
  | none =>
    simp only [h1] at h
    simp only [takeM_app0 z h1 hr]
    injection h with h; injection h with ha hb; subst ha hb; rfl
  | some r1 =>
    simp only [h1] at h
    simp only [takeM_app z h1]
    cases h2 : takeM [58] r1 with
    | none => simp only [h2] at h; cases h
    | some r2 =>
      simp only [h2] at h
      simp only [takeM_app z h2]
      injection h with h; injection h with ha hb; subst ha hb; rfl
def PatApp (pat : List Str → Nat → Res) (z : List Str) (N : Nat) : Prop := ∀ (r : List Str) (d : Nat) (x : Rx) (r1 : List Str), r.length + z.length ≤ N → okC r → pat r d = .ok (x, r1) → r1 ≠ [] → pat (r ++ z) d = .ok (x, r1 ++ z)
theorem group_app {pat : List Str → Nat → Res} {z : List Str} {N : Nat} (hp : PatApp pat z N) (hnil : ∀ d, pat [] d = .ok (kind0 [], []) ∨ ∃ e, pat [] d = .error e) {r r1 : List Str} {d : Nat} {x : Rx} (h : groupM pat r d = .ok (x, r1)) (ho : okC r) (hN : r.length + z.length ≤ N) : groupM pat (r ++ z) d = .ok (x, r1 ++ z) := by
  unfold groupM at h ⊢
  by_cases hd : 16 ≤ d
  · rw [if_pos hd] at h; cases h
  rw [if_neg hd] at h ⊢
  cases hk : groupK r with
  | none => simp only [hk] at h; cases h
  | some y =>
    obtain ⟨k, r0⟩ := y
    have ks := (groupK_sfx hk).1
    simp only [hk] at h
    have hr : r ≠ [] := by
      rintro rfl
      have e0 : r0 = [] := List.suffix_nil.1 ks
      subst e0
      rcases hnil (d + 1) with e | ⟨e, he⟩
      · simp only [e, takeM] at h; cases h
      · simp only [he] at h; cases h
    simp only [groupK_app z hk hr]
    cases hx : pat r0 (d + 1) with
    | error e => simp only [hx] at h; cases h
    | ok y =>
      obtain ⟨w, r2⟩ := y
      simp only [hx] at h
      cases ht : takeM [41] r2 with
      | none => simp only [ht] at h; cases h
      | some r3 =>
        simp only [ht] at h
        have h2 : r2 ≠ [] := by rintro rfl; cases ht
        have hl := sfx_len ks
        rw [hp r0 (d + 1) w r2 (by omega) (sfx_ok ks ho) hx h2]
        simp only [takeM_app z ht]
        injection h with h; injection h with h3 h4; subst h3 h4; rfl
end Go.Proofs.Ytemophfieihgaaa
namespace Go.Proofs.Ytemophfieihgaaa
theorem atom_app {pat : List Str → Nat → Res} {z : List Str} {N : Nat} (hp : PatApp pat z N) (hnil : ∀ d, pat [] d = .ok (kind0 [], []) ∨ ∃ e, pat [] d = .error e) {r r1 : List Str} {d : Nat} {x : Rx} (h : atomM pat r d = .ok (x, r1)) (ho : okC r) (hN : r.length + z.length ≤ N + 1) : atomM pat (r ++ z) d = .ok (x, r1 ++ z) := by
  cases r with
  | nil => cases h
  | cons c r =>
    simp only [List.length_cons] at hN
    simp only [atomM, List.cons_append] at h ⊢
    by_cases h1 : c = [46]
    · rw [if_pos h1] at h ⊢; injection h with h; injection h with ha hb; subst ha hb; rfl
    rw [if_neg h1] at h ⊢
    by_cases h2 : c = [40]
    · rw [if_pos h2] at h ⊢; exact group_app hp hnil h ho.tail (by omega)
    rw [if_neg h2] at h ⊢
    by_cases h3 : c = [91]
    · rw [if_pos h3] at h ⊢; exact class_app z h
    rw [if_neg h3] at h ⊢
    by_cases h4 : c = [92]
    · rw [if_pos h4] at h ⊢; exact esc_app z h
    rw [if_neg h4] at h ⊢
    by_cases h5 : noAtom c = true
    · rw [if_pos h5] at h; cases h
    · rw [if_neg h5] at h ⊢; injection h with h; injection h with ha hb; subst ha hb; rfl
theorem edge_app {r r1 : List Str} {x : Rx} (z : List Str) (h : edgeM r = some (x, r1)) : edgeM (r ++ z) = some (x, r1 ++ z) := by
  cases r with
  | nil => cases h
  | cons c r =>
    simp only [edgeM, List.cons_append] at h ⊢
    by_cases h1 : c = [94]
    · rw [if_pos h1] at h ⊢; injection h with h; injection h with ha hb; subst ha hb; rfl
    rw [if_neg h1] at h ⊢
    by_cases h2 : c = [36]
    · rw [if_pos h2] at h ⊢; injection h with h; injection h with ha hb; subst ha hb; rfl
    rw [if_neg h2] at h ⊢
    by_cases h3 : c = [92]
    · rw [if_pos h3] at h ⊢
      cases h4 : takeM [98] r with
      | some r2 => simp only [h4] at h; simp only [takeM_app z h4]; injection h with h; injection h with ha hb; subst ha hb; rfl
      | none =>
        simp only [h4] at h
        cases h5 : takeM [66] r with
        | some r2 =>
          have hr : r ≠ [] := by rintro rfl; cases h5
          simp only [h5] at h
          simp only [takeM_app0 z h4 hr, takeM_app z h5]
          injection h with h; injection h with ha hb; subst ha hb; rfl
        | none => simp only [h5] at h; cases h
    · rw [if_neg h3] at h; cases h
theorem edge_app0 {r : List Str} (z : List Str) (h : edgeM r = none) (hr : r ≠ []) (h92 : r ≠ [[92]]) : edgeM (r ++ z) = none := by
  cases r with
  | nil => exact absurd rfl hr
  | cons c r =>
    simp only [edgeM, List.cons_append] at h ⊢
    by_cases h1 : c = [94]
    · rw [if_pos h1] at h; cases h
    rw [if_neg h1] at h ⊢
    by_cases h2 : c = [36]
    · rw [if_pos h2] at h; cases h
    rw [if_neg h2] at h ⊢
    by_cases h3 : c = [92]
    · rw [if_pos h3] at h ⊢
      have hr : r ≠ [] := by rintro rfl; rw [h3] at h92; exact h92 rfl
      cases h4 : takeM [98] r with
      | some r2 => simp only [h4] at h; cases h
      | none =>
        simp only [h4] at h
        cases h5 : takeM [66] r with
        | some r2 => simp only [h5] at h; cases h
        | none => simp only [takeM_app0 z h4 hr, takeM_app0 z h5 hr]
    · rw [if_neg h3]
theorem term_app {pat : List Str → Nat → Res} {z : List Str} {N : Nat} (hp : PatApp pat z N) (hnil : ∀ d, pat [] d = .ok (kind0 [], []) ∨ ∃ e, pat [] d = .error e) {r r1 : List Str} {d : Nat} {x : Rx} (h : termM pat r d = .ok (x, r1)) (ho : okC r) (hN : r.length + z.length ≤ N + 1) (hz : r1 ≠ [] ∨ noQ z) : termM pat (r ++ z) d = .ok (x, r1 ++ z) := by
  unfold termM at h ⊢
  cases he : edgeM r with
  | some y =>
    simp only [he] at h
    obtain ⟨a, b⟩ := y
    injection h with h; injection h with ha hb; subst ha hb
    simp only [edge_app z he]
  | none =>
    simp only [he] at h
    cases ha : atomM pat r d with
    | error e => simp only [ha] at h; cases h
    | ok y =>
      obtain ⟨w, r2⟩ := y
      simp only [ha] at h
      have hr : r ≠ [] := by rintro rfl; cases ha
      have h92 : r ≠ [[92]] := by rintro rfl; simp [atomM, escM] at ha
      simp only [edge_app0 z he hr h92, atom_app hp hnil ha ho hN]
      exact quant_app z h hz
theorem pat_nil (n : Nat) (d : Nat) : patF n [] d = .ok (kind0 [], []) ∨ ∃ e, patF n [] d = .error e := by
  cases n with
  | zero => exact .inr ⟨1, rfl⟩
  | succ n => exact .inl rfl
/-- Two readers of terms that agree on what is left make the same patterns. -/
theorem patL_congr {f g : List Str → Res} : ∀ (k : Nat) (alts terms : List Rx) (r : List Str), (∀ r', r' <:+ r → f r' = g r') → (∀ r' x r1, r' <:+ r → f r' = .ok (x, r1) → r1 <:+ r') → patL f k alts terms r = patL g k alts terms r
  | 0, _, _, _, _, _ => rfl
  | k + 1, alts, terms, [], _, _ => rfl
  | k + 1, alts, terms, c :: r, h, hs => by
    simp only [patL]
    by_cases h1 : c = [41]
    · rw [if_pos h1, if_pos h1]
    rw [if_neg h1, if_neg h1]
    by_cases h2 : c = [124]
    · rw [if_pos h2, if_pos h2]
      exact patL_congr k _ _ r (fun r' hr => h r' (sfx_cons hr)) (fun r' x r1 hr => hs r' x r1 (sfx_cons hr))
    rw [if_neg h2, if_neg h2, ← h (c :: r) (List.suffix_refl _)]
    cases hx : f (c :: r) with
    | error e => rfl
    | ok y =>
      obtain ⟨x, r1⟩ := y
      have s := hs _ _ _ (List.suffix_refl _) hx
      exact patL_congr k _ _ r1 (fun r' hr => h r' (hr.trans s)) (fun r' x r2 hr => hs r' x r2 (hr.trans s))
/-- The fuel of a pattern's loop: enough is enough. -/
theorem patL_fuel {f : List Str → Res} : ∀ (k m : Nat) (alts terms : List Rx) (r : List Str), r.length < k → k ≤ m → (∀ r' x r1, r' <:+ r → f r' = .ok (x, r1) → r1 <:+ r' ∧ r1.length < r'.length) → patL f k alts terms r = patL f m alts terms r
  | 0, _, _, _, _, h, _, _ => by omega
  | k + 1, m, alts, terms, r, hk, hm, hs => by
    obtain ⟨m, rfl⟩ : ∃ m', m = m' + 1 := ⟨m - 1, by omega⟩
    cases r with
    | nil => rfl
    | cons c r =>
      simp only [List.length_cons] at hk
      simp only [patL]
      by_cases h1 : c = [41]
      · rw [if_pos h1, if_pos h1]
      rw [if_neg h1, if_neg h1]
      by_cases h2 : c = [124]
      · rw [if_pos h2, if_pos h2]
        exact patL_fuel k m _ _ r (by omega) (by omega) (fun r' x r1 hr => hs r' x r1 (sfx_cons hr))
      rw [if_neg h2, if_neg h2]
      cases hx : f (c :: r) with
      | error e => rfl
      | ok y =>
        obtain ⟨x, r1⟩ := y
        obtain ⟨s, hl⟩ := hs _ _ _ (List.suffix_refl _) hx
        simp only [List.length_cons] at hl
        exact patL_fuel k m _ _ r1 (by omega) (by omega) (fun r' x r2 hr => hs r' x r2 (hr.trans s))
theorem group_congr {p q : List Str → Nat → Res} {r : List Str} {d : Nat} (h : ∀ r' d', r' <:+ r → p r' d' = q r' d') : groupM p r d = groupM q r d := by
  unfold groupM
  by_cases hd : 16 ≤ d
  · rw [if_pos hd, if_pos hd]
  rw [if_neg hd, if_neg hd]
  cases hk : groupK r with
  | none => rfl
  | some y => simp only; rw [h y.2 (d + 1) (groupK_sfx (k := y.1) hk).1]
theorem atom_congr {p q : List Str → Nat → Res} {c : Str} {r : List Str} {d : Nat} (h : ∀ r' d', r' <:+ r → p r' d' = q r' d') : atomM p (c :: r) d = atomM q (c :: r) d := by
  simp only [atomM, group_congr h]
theorem term_congr {p q : List Str → Nat → Res} {r : List Str} {d : Nat} (h : ∀ r' d', r' <:+ r → r'.length < r.length → p r' d' = q r' d') : termM p r d = termM q r d := by
  unfold termM
  cases r with
  | nil => rfl
  | cons c r => rw [atom_congr (fun r' d' hs => h r' d' (sfx_cons hs) (by have := sfx_len hs; simp; omega))]
theorem term_sfx {n : Nat} {r r1 : List Str} {d : Nat} {x : Rx} (h : termM (patF n) r d = .ok (x, r1)) (ho : okC r) (hl : r.length ≤ 200000) : r1 <:+ r ∧ r1.length < r.length := by
  obtain ⟨f, g⟩ := term_facts (pat_facts n) h ho (by omega) (Nat.le_refl _)
  exact ⟨f.2.2.2, g⟩
/-- The fuel of all: enough is enough. -/
theorem pat_fuel : ∀ (n : Nat) (r : List Str) (d : Nat), r.length < n → okC r → r.length ≤ 200000 → patF n r d = patF (n + 1) r d
  | 0, _, _, h, _, _ => by omega
  | n + 1, r, d, h, ho, hl => by
    show patL (fun r => termM (patF n) r d) (r.length + 1) [] [] r = patL (fun r => termM (patF (n + 1)) r d) (r.length + 1) [] [] r
    refine patL_congr _ _ _ _ (fun r' hs => term_congr fun r2 d2 hs2 hl2 => ?_) (fun r' x r1 hs hx => (term_sfx hx (sfx_ok hs ho) (by have := sfx_len hs; omega)).1)
    have := sfx_len hs
    exact pat_fuel n r2 d2 (by omega) (sfx_ok (hs2.trans hs) ho) (by omega)
theorem pat_fuels {n m : Nat} {r : List Str} {d : Nat} (hn : r.length < n) (hm : r.length < m) (ho : okC r) (hl : r.length ≤ 200000) : patF n r d = patF m r d := by
  have key : ∀ k, patF n r d = patF (n + k) r d := by
    intro k
    induction k with
    | zero => rfl
    | succ k ih => rw [ih]; exact pat_fuel (n + k) r d (by omega) ho hl
  have key2 : ∀ k, patF m r d = patF (m + k) r d := by
    intro k
    induction k with
    | zero => rfl
    | succ k ih => rw [ih]; exact pat_fuel (m + k) r d (by omega) ho hl
  rw [key m, key2 n, Nat.add_comm]
/-- A pattern that ends ahead of a bracket goes on the same, whatever is behind. -/
theorem patL_app {f : List Str → Res} {z : List Str} : ∀ (k m : Nat) (alts terms : List Rx) (r : List Str) {x : Rx} {r1 : List Str}, k ≤ m → patL f k alts terms r = .ok (x, r1) → r1 ≠ [] →
    (∀ r' y r2, r' <:+ r → f r' = .ok (y, r2) → r2 ≠ [] → f (r' ++ z) = .ok (y, r2 ++ z)) → (∀ r' y r2, r' <:+ r → f r' = .ok (y, r2) → r2 <:+ r') → patL f m alts terms (r ++ z) = .ok (x, r1 ++ z)
  | 0, _, _, _, _, _, _, _, h, _, _, _ => by cases h
  | k + 1, m, alts, terms, r, x, r1, hm, h, hr, ht, hs => by
    obtain ⟨m, rfl⟩ : ∃ m', m = m' + 1 := ⟨m - 1, by omega⟩
    cases r with
    | nil => simp only [patL] at h; injection h with h; injection h with _ h; exact absurd h.symm hr
    | cons c r =>
      simp only [patL, List.cons_append] at h ⊢
      by_cases h1 : c = [41]
      · rw [if_pos h1] at h ⊢; injection h with h; injection h with ha hb; subst ha hb; rfl
      rw [if_neg h1] at h ⊢
      by_cases h2 : c = [124]
      · rw [if_pos h2] at h ⊢
        exact patL_app k m _ _ r (by omega) h hr (fun r' y r2 q => ht r' y r2 (sfx_cons q)) (fun r' y r2 q => hs r' y r2 (sfx_cons q))
      rw [if_neg h2] at h ⊢
      cases hx : f (c :: r) with
      | error e => simp only [hx] at h; cases h
      | ok y =>
        obtain ⟨w, r2⟩ := y
        simp only [hx] at h
        have s := hs _ _ _ (List.suffix_refl _) hx
        have h2' : r2 ≠ [] := by
          rintro rfl
          cases k with
          | zero => cases h
          | succ k => simp only [patL] at h; injection h with h; injection h with _ h; exact hr h.symm
        have hx2 := ht _ _ _ (List.suffix_refl _) hx h2'
        rw [List.cons_append] at hx2
        simp only [hx2]
        exact patL_app k m _ _ r2 (by omega) h hr (fun r' y r3 q => ht r' y r3 (q.trans s)) (fun r' y r3 q => hs r' y r3 (q.trans s))
theorem pat_app (z : List Str) : ∀ (n : Nat), n ≤ 200000 → PatApp (patF n) z n
  | 0, _ => fun r d x r1 _ _ h _ => by cases h
  | n + 1, hn => fun r d x r1 hl ho h hr => by
    have ih := pat_app z n (by omega)
    refine patL_app (f := fun r => termM (patF n) r d) (r.length + 1) ((r ++ z).length + 1) [] [] r (by simp) h hr (fun r' y r2 hs hx h2 => ?_) (fun r' y r2 hs hx => (term_sfx hx (sfx_ok hs ho) (by have := sfx_len hs; omega)).1)
    exact term_app ih (pat_nil n) hx (sfx_ok hs ho) (by have := sfx_len hs; omega) (.inl h2)
end Go.Proofs.Ytemophfieihgaaa
namespace Go.Proofs.Ytemophfieihgaaa
def InvA (l : List Rx) : Prop := ∀ y ∈ l, y.kind ≠ 1
def InvT (l : List Rx) : Prop := ∀ y ∈ l, y.kind ≠ 0 ∧ y.kind ≠ 1
theorem InvA.app {a b : List Rx} (h1 : InvA a) (h2 : InvA b) : InvA (a ++ b) := fun y hy => (List.mem_append.1 hy).elim (h1 y) (h2 y)
theorem InvT.app {a b : List Rx} (h1 : InvT a) (h2 : InvT b) : InvT (a ++ b) := fun y hy => (List.mem_append.1 hy).elim (h1 y) (h2 y)
theorem flatL_id {kd : Int} : ∀ {l : List Rx}, (∀ y ∈ l, y.kind ≠ kd) → flatL kd l = l
  | [], _ => rfl
  | x :: l, h => by
    rw [flatL_cons, if_neg (h x (List.mem_cons_self ..)), flatL_id (fun y hy => h y (List.mem_cons_of_mem _ hy))]; rfl
theorem seqR_kind {l : List Rx} (h : InvT l) : (seqR l).kind ≠ 1 ∧ flatL 0 [seqR l] = l := by
  have hf : flatL 0 l = l := flatL_id fun y hy => (h y hy).1
  rcases l with _ | ⟨x, _ | ⟨y, l⟩⟩
  · exact ⟨by decide, rfl⟩
  · have e : seqR [x] = x := by unfold seqR; rw [hf]
    have hx := h x (List.mem_cons_self ..)
    rw [e]
    exact ⟨hx.2, flatL_id fun y hy => by rw [List.mem_singleton] at hy; rw [hy]; exact hx.1⟩
  · have e : seqR (x :: y :: l) = kind0 (x :: y :: l) := by unfold seqR; rw [hf]
    rw [e]
    exact ⟨by show (0 : Int) ≠ 1; decide, by rw [flatL_cons]; simp [kind0, Rx.kind, Rx.kids, flatL]⟩
theorem altR_one' {x : Rx} (h : x.kind ≠ 1) : altR [x] = x := by
  unfold altR; rw [flatL_id (fun y hy => by rw [List.mem_singleton] at hy; rw [hy]; exact h)]
theorem altR_flat {l : List Rx} (h : InvA l) (hl : l ≠ []) : flatL 1 [altR l] = l := by
  have hf : flatL 1 l = l := flatL_id h
  rcases l with _ | ⟨x, _ | ⟨y, l⟩⟩
  · exact absurd rfl hl
  · rw [altR_one' (h x (List.mem_cons_self ..))]; exact hf
  · have e : altR (x :: y :: l) = kind1 (x :: y :: l) := by unfold altR; rw [hf]
    rw [e, flatL_cons]; simp [kind1, Rx.kind, Rx.kids, flatL]
theorem altR_kind {l : List Rx} (h : InvA l) (hl : 2 ≤ l.length) : (altR l).kind = 1 := by
  have hf : flatL 1 l = l := flatL_id h
  rcases l with _ | ⟨x, _ | ⟨y, l⟩⟩
  · simp at hl
  · simp at hl
  · unfold altR; rw [hf]; rfl
theorem flatL_app (kd : Int) (a b : List Rx) : flatL kd (a ++ b) = flatL kd a ++ flatL kd b := by simp [flatL]
/-- Alternatives of two are the alternatives of both. -/
theorem altR_two {a b : List Rx} (ha : InvA a) (hb : InvA b) (ha0 : a ≠ []) (hb0 : b ≠ []) : altR [altR a, altR b] = altR (a ++ b) := by
  have h1 : flatL 1 [altR a, altR b] = a ++ b := by
    rw [show [altR a, altR b] = [altR a] ++ [altR b] from rfl, flatL_app, altR_flat ha ha0, altR_flat hb hb0]
  have h2 : flatL 1 (a ++ b) = a ++ b := flatL_id (ha.app hb)
  unfold altR; rw [h2]; unfold altR at h1; rw [h1]
theorem seqR_two {a b : List Rx} (ha : InvT a) (hb : InvT b) : seqR [seqR a, seqR b] = seqR (a ++ b) := by
  have h1 : flatL 0 [seqR a, seqR b] = a ++ b := by
    rw [show [seqR a, seqR b] = [seqR a] ++ [seqR b] from rfl, flatL_app, (seqR_kind ha).2, (seqR_kind hb).2]
  have h2 : flatL 0 (a ++ b) = a ++ b := flatL_id fun y hy => ((ha.app hb) y hy).1
  unfold seqR; rw [h2]; unfold seqR at h1; rw [h1]
theorem quant_kind {x y : Rx} {r r1 : List Str} (h : quantM x r = .ok (y, r1)) (hx : x.kind ≠ 0 ∧ x.kind ≠ 1) : y.kind ≠ 0 ∧ y.kind ≠ 1 := by
  rcases quant_facts h with ⟨rfl, _⟩ | ⟨⟨lo, hi, lz, rfl⟩, _⟩
  · exact hx
  · exact ⟨by show (7 : Int) ≠ 0; decide, by show (7 : Int) ≠ 1; decide⟩
theorem atom_kind {pat : List Str → Nat → Res} {r r1 : List Str} {d : Nat} {x : Rx} (h : atomM pat r d = .ok (x, r1)) : x.kind ≠ 0 ∧ x.kind ≠ 1 := by
  have lit : ∀ k : Int, k ≠ 0 → k ≠ 1 → ∀ y : Rx, y.kind = k → y.kind ≠ 0 ∧ y.kind ≠ 1 := fun k h0 h1 y hy => by rw [hy]; exact ⟨h0, h1⟩
  cases r with
  | nil => cases h
  | cons c r =>
    simp only [atomM] at h
    by_cases h1 : c = [46]
    · rw [if_pos h1] at h; injection h with h; injection h with ha _; subst ha; exact lit 3 (by decide) (by decide) _ rfl
    rw [if_neg h1] at h
    by_cases h2 : c = [40]
    · rw [if_pos h2] at h
      unfold groupM at h
      by_cases hd : 16 ≤ d
      · rw [if_pos hd] at h; cases h
      rw [if_neg hd] at h
      cases hk : groupK r with
      | none => simp only [hk] at h; cases h
      | some y =>
        obtain ⟨k, r0⟩ := y
        have hk2 := (groupK_sfx hk).2
        simp only [hk] at h
        cases hx : pat r0 (d + 1) with
        | error e => simp only [hx] at h; cases h
        | ok y =>
          simp only [hx] at h
          cases ht : takeM [41] y.2 with
          | none => simp only [ht] at h; cases h
          | some r3 =>
            simp only [ht] at h
            injection h with h; injection h with ha _; subst ha
            rcases hk2 with rfl | rfl
            · exact lit 5 (by decide) (by decide) _ rfl
            · exact lit 6 (by decide) (by decide) _ rfl
    rw [if_neg h2] at h
    by_cases h3 : c = [91]
    · rw [if_pos h3] at h
      unfold classM at h
      simp only at h
      generalize classL _ _ _ = q at h
      cases q with
      | none => simp only at h; cases h
      | some y => simp only at h; injection h with h; injection h with ha _; subst ha; exact lit 4 (by decide) (by decide) _ rfl
    rw [if_neg h3] at h
    by_cases h4 : c = [92]
    · rw [if_pos h4] at h
      cases r with
      | nil => cases h
      | cons c2 r2 =>
        simp only [escM] at h
        cases hn : namedS c2 with
        | some rows => simp only [hn] at h; injection h with h; injection h with ha _; subst ha; exact lit 4 (by decide) (by decide) _ rfl
        | none =>
          simp only [hn] at h
          cases hb : bigS c2 with
          | some rows => simp only [hb] at h; injection h with h; injection h with ha _; subst ha; exact lit 4 (by decide) (by decide) _ rfl
          | none =>
            simp only [hb] at h
            cases hpm : plainM c2 with
            | none => simp only [hpm] at h; cases h
            | some t => simp only [hpm] at h; injection h with h; injection h with ha _; subst ha; exact lit 2 (by decide) (by decide) _ rfl
    rw [if_neg h4] at h
    by_cases h5 : noAtom c = true
    · rw [if_pos h5] at h; cases h
    · rw [if_neg h5] at h; injection h with h; injection h with ha _; subst ha; exact lit 2 (by decide) (by decide) _ rfl
theorem term_kind {pat : List Str → Nat → Res} {r r1 : List Str} {d : Nat} {x : Rx} (h : termM pat r d = .ok (x, r1)) : x.kind ≠ 0 ∧ x.kind ≠ 1 := by
  unfold termM at h
  cases he : edgeM r with
  | some y =>
    simp only [he] at h; injection h with h; subst h
    cases r with
    | nil => cases he
    | cons c r =>
      simp only [edgeM] at he
      by_cases h1 : c = [94]
      · rw [if_pos h1] at he; injection he with he; injection he with ha _; subst ha; exact ⟨by decide, by decide⟩
      rw [if_neg h1] at he
      by_cases h2 : c = [36]
      · rw [if_pos h2] at he; injection he with he; injection he with ha _; subst ha; exact ⟨by decide, by decide⟩
      rw [if_neg h2] at he
      by_cases h3 : c = [92]
      · rw [if_pos h3] at he
        cases h4 : takeM [98] r with
        | some r2 => simp only [h4] at he; injection he with he; injection he with ha _; subst ha; exact ⟨by decide, by decide⟩
        | none =>
          simp only [h4] at he
          cases h5 : takeM [66] r with
          | some r2 => simp only [h5] at he; injection he with he; injection he with ha _; subst ha; exact ⟨by decide, by decide⟩
          | none => simp only [h5] at he; cases he
      · rw [if_neg h3] at he; cases he
  | none =>
    simp only [he] at h
    cases ha : atomM pat r d with
    | error e => simp only [ha] at h; cases h
    | ok y =>
      simp only [ha] at h
      exact quant_kind h (atom_kind ha)
/-- A pattern read to the end, with z behind it: the loop stands ahead of z. -/
theorem patL_go {f : List Str → Res} {z : List Str} (hq : noQ z) : ∀ (k m : Nat) (alts terms : List Rx) (r : List Str) {x : Rx}, k ≤ m → (r ++ z).length < m → patL f k alts terms r = .ok (x, []) → InvA alts → InvT terms →
    (∀ r' y r2, r' <:+ r → f r' = .ok (y, r2) → f (r' ++ z) = .ok (y, r2 ++ z)) → (∀ r' y r2, r' <:+ r → f r' = .ok (y, r2) → r2 <:+ r' ∧ r2.length < r'.length ∧ y.kind ≠ 0 ∧ y.kind ≠ 1) →
    ∃ alts' terms' m', x = altR (alts' ++ [seqR terms']) ∧ patL f m alts terms (r ++ z) = patL f m' alts' terms' z ∧ z.length < m' ∧ InvA alts' ∧ InvT terms' ∧ (alts ≠ [] → alts' ≠ [])
  | 0, _, _, _, _, _, _, _, h, _, _, _, _ => by cases h
  | k + 1, m, alts, terms, r, x, hm, hl, h, ha, ht, he, hs => by
    obtain ⟨m, rfl⟩ : ∃ m', m = m' + 1 := ⟨m - 1, by omega⟩
    cases r with
    | nil =>
      simp only [patL] at h
      injection h with h; injection h with h1 _
      exact ⟨alts, terms, m + 1, h1.symm, rfl, by simpa using hl, ha, ht, fun q => q⟩
    | cons c r =>
      simp only [List.cons_append, List.length_cons] at hl
      simp only [patL] at h
      simp only [List.cons_append]
      by_cases h1 : c = [41]
      · rw [if_pos h1] at h; injection h with h; injection h with _ h; cases h
      rw [if_neg h1] at h
      by_cases h2 : c = [124]
      · rw [if_pos h2] at h
        obtain ⟨a', t', m', g1, g2, g3, g4, g5, g6⟩ := patL_go hq k m (alts ++ [seqR terms]) [] r (by omega) (by omega) h (ha.app fun y hy => by rw [List.mem_singleton] at hy; rw [hy]; exact (seqR_kind ht).1) (fun y hy => by cases hy) (fun r' y r2 q => he r' y r2 (sfx_cons q)) (fun r' y r2 q => hs r' y r2 (sfx_cons q))
        refine ⟨a', t', m', g1, ?_, g3, g4, g5, fun _ => g6 (by simp)⟩
        rw [← g2]
        simp only [patL, if_neg h1, if_pos h2]
      rw [if_neg h2] at h
      cases hx : f (c :: r) with
      | error e => simp only [hx] at h; cases h
      | ok y =>
        obtain ⟨w, r2⟩ := y
        simp only [hx] at h
        obtain ⟨s1, s2, s3⟩ := hs _ _ _ (List.suffix_refl _) hx
        have hx2 := he _ _ _ (List.suffix_refl _) hx
        rw [List.cons_append] at hx2
        simp only [List.length_cons] at s2
        simp only [List.length_append] at hl
        obtain ⟨a', t', m', g1, g2, g3, g4, g5, g6⟩ := patL_go hq k m alts (terms ++ [w]) r2 (by omega) (by rw [List.length_append]; omega) h ha (ht.app fun y hy => by rw [List.mem_singleton] at hy; rw [hy]; exact s3) (fun r' y r3 q => he r' y r3 (q.trans s1)) (fun r' y r3 q => hs r' y r3 (q.trans s1))
        refine ⟨a', t', m', g1, ?_, g3, g4, g5, g6⟩
        rw [← g2]
        simp only [patL, if_neg h1, if_neg h2, hx2]
/-- With alternatives ahead. -/
theorem patL_pre {f : List Str → Res} : ∀ (k : Nat) (alts terms : List Rx) (r : List Str) {x : Rx} {r1 : List Str}, patL f k alts terms r = .ok (x, r1) → InvT terms → (∀ r' y r2, r' <:+ r → f r' = .ok (y, r2) → r2 <:+ r' ∧ y.kind ≠ 0 ∧ y.kind ≠ 1) →
    ∃ B, B ≠ [] ∧ InvA B ∧ x = altR (alts ++ B) ∧ ∀ A, patL f k (A ++ alts) terms r = .ok (altR (A ++ (alts ++ B)), r1)
  | 0, _, _, _, _, _, h, _, _ => by cases h
  | k + 1, alts, terms, r, x, r1, h, ht, hs => by
    have h1B : InvA [seqR terms] := fun y hy => by rw [List.mem_singleton] at hy; rw [hy]; exact (seqR_kind ht).1
    cases r with
    | nil =>
      simp only [patL] at h
      injection h with h; injection h with h1 h2
      exact ⟨[seqR terms], by simp, h1B, h1.symm, fun A => by simp only [patL, List.append_assoc]; rw [h2]⟩
    | cons c r =>
      simp only [patL] at h
      by_cases h1 : c = [41]
      · rw [if_pos h1] at h; injection h with h; injection h with ha hb
        exact ⟨[seqR terms], by simp, h1B, ha.symm, fun A => by simp only [patL, if_pos h1, List.append_assoc]; rw [hb]⟩
      rw [if_neg h1] at h
      by_cases h2 : c = [124]
      · rw [if_pos h2] at h
        obtain ⟨B, b1, b2, b3, b4⟩ := patL_pre k (alts ++ [seqR terms]) [] r h (fun y hy => by cases hy) (fun r' y r2 q => hs r' y r2 (sfx_cons q))
        refine ⟨seqR terms :: B, by simp, InvA.app h1B b2, by rw [b3]; simp, fun A => ?_⟩
        have := b4 A
        simp only [patL, if_neg h1, if_pos h2]
        rw [← List.append_assoc] at this
        rw [this]; simp
      rw [if_neg h2] at h
      cases hx : f (c :: r) with
      | error e => simp only [hx] at h; cases h
      | ok y =>
        obtain ⟨w, r2⟩ := y
        simp only [hx] at h
        obtain ⟨s1, s3⟩ := hs _ _ _ (List.suffix_refl _) hx
        obtain ⟨B, b1, b2, b3, b4⟩ := patL_pre k alts (terms ++ [w]) r2 h (ht.app fun y hy => by rw [List.mem_singleton] at hy; rw [hy]; exact s3) (fun r' y r3 q => hs r' y r3 (q.trans s1))
        refine ⟨B, b1, b2, b3, fun A => ?_⟩
        simp only [patL, if_neg h1, if_neg h2, hx]
        exact b4 A
/-- No alternatives: with terms ahead. -/
theorem patL_seq {f : List Str → Res} : ∀ (k : Nat) (terms : List Rx) (r : List Str) {x : Rx} {r1 : List Str}, patL f k [] terms r = .ok (x, r1) → x.kind ≠ 1 → InvT terms → (∀ r' y r2, r' <:+ r → f r' = .ok (y, r2) → r2 <:+ r' ∧ y.kind ≠ 0 ∧ y.kind ≠ 1) →
    ∃ T, InvT T ∧ x = seqR (terms ++ T) ∧ ∀ S, InvT S → patL f k [] (S ++ terms) r = .ok (seqR (S ++ (terms ++ T)), r1)
  | 0, _, _, _, _, h, _, _, _ => by cases h
  | k + 1, terms, r, x, r1, h, hk, ht, hs => by
    have fin : ∀ S, InvT S → altR ([] ++ [seqR (S ++ terms)]) = seqR (S ++ (terms ++ [])) := fun S hS => by
      rw [List.nil_append, List.append_nil, altR_one' (seqR_kind (hS.app ht)).1]
    cases r with
    | nil =>
      simp only [patL] at h
      injection h with h; injection h with h1 h2
      have e := fin [] (fun y hy => by cases hy)
      exact ⟨[], fun y hy => (by cases hy), by rw [← h1]; simpa using e, fun S hS => by simp only [patL]; rw [fin S hS, h2]⟩
    | cons c r =>
      simp only [patL] at h
      by_cases h1 : c = [41]
      · rw [if_pos h1] at h; injection h with h; injection h with ha hb
        have e := fin [] (fun y hy => by cases hy)
        exact ⟨[], fun y hy => (by cases hy), by rw [← ha]; simpa using e, fun S hS => by simp only [patL, if_pos h1]; rw [fin S hS, hb]⟩
      rw [if_neg h1] at h
      by_cases h2 : c = [124]
      · rw [if_pos h2] at h
        obtain ⟨B, b1, b2, b3, _⟩ := patL_pre k ([] ++ [seqR terms]) [] r h (fun y hy => by cases hy) (fun r' y r2 q => hs r' y r2 (sfx_cons q))
        exfalso
        apply hk
        rw [b3]
        refine altR_kind (InvA.app (fun y hy => ?_) b2) ?_
        · rw [List.nil_append, List.mem_singleton] at hy; rw [hy]; exact (seqR_kind ht).1
        · cases B with
          | nil => exact absurd rfl b1
          | cons b B => simp
      rw [if_neg h2] at h
      cases hx : f (c :: r) with
      | error e => simp only [hx] at h; cases h
      | ok y =>
        obtain ⟨w, r2⟩ := y
        simp only [hx] at h
        obtain ⟨s1, s3⟩ := hs _ _ _ (List.suffix_refl _) hx
        have hw : InvT [w] := fun y hy => by rw [List.mem_singleton] at hy; rw [hy]; exact s3
        obtain ⟨T, b1, b2, b3⟩ := patL_seq k (terms ++ [w]) r2 h hk (ht.app hw) (fun r' y r3 q => hs r' y r3 (q.trans s1))
        refine ⟨w :: T, InvT.app hw b1, by rw [b2]; simp, fun S hS => ?_⟩
        have := b3 S hS
        simp only [patL, if_neg h1, if_neg h2, hx]
        rw [List.append_assoc, this]; simp
end Go.Proofs.Ytemophfieihgaaa
namespace Go.Proofs.Ytemophfieihgaaa
theorem term_ext {n d : Nat} {z : List Str} (hn : n ≤ 200000) (hq : noQ z) {r y r2} (ho : okC r) (hl : r.length + z.length ≤ n + 1) (h : termM (patF n) r d = .ok (y, r2)) : termM (patF n) (r ++ z) d = .ok (y, r2 ++ z) :=
  term_app (pat_app z n hn) (pat_nil n) h ho hl (.inr hq)
theorem term_all {n d : Nat} {r y r2} (h : termM (patF n) r d = .ok (y, r2)) (ho : okC r) (hl : r.length ≤ 200000) : r2 <:+ r ∧ r2.length < r.length ∧ y.kind ≠ 0 ∧ y.kind ≠ 1 :=
  ⟨(term_sfx h ho hl).1, (term_sfx h ho hl).2, term_kind h⟩
theorem okC_app {a b : List Str} (h1 : okC a) (h2 : okC b) : okC (a ++ b) := fun p hp => (List.mem_append.1 hp).elim (h1 p) (h2 p)
/-- A reading to the end, told by the loop. -/
theorem pat_go {l z : List Str} {x : Rx} {d n : Nat} (ho : okC l) (hq : noQ z) (hl : l.length + z.length ≤ n) (hn : n ≤ 200000) (h : patF (l.length + 1) l d = .ok (x, [])) :
    ∃ alts terms m, x = altR (alts ++ [seqR terms]) ∧ patL (fun r => termM (patF n) r d) ((l ++ z).length + 1) [] [] (l ++ z) = patL (fun r => termM (patF n) r d) m alts terms z ∧ z.length < m ∧ InvA alts ∧ InvT terms := by
  rw [pat_fuels (n := l.length + 1) (m := n + 1) (by omega) (by omega) ho (by omega)] at h
  obtain ⟨a, t, m, g1, g2, g3, g4, g5, _⟩ := patL_go (f := fun r => termM (patF n) r d) hq (l.length + 1) ((l ++ z).length + 1) [] [] l (by simp) (by omega) h (fun y hy => by cases hy) (fun y hy => by cases hy)
    (fun r' y r2 q hx => term_ext hn hq (sfx_ok q ho) (by have := sfx_len q; omega) hx) (fun r' y r2 q hx => term_all hx (sfx_ok q ho) (by have := sfx_len q; omega))
  exact ⟨a, t, m, g1, g2, g3, g4, g5⟩
theorem pat_loop {l : List Str} {x : Rx} {d n m : Nat} (ho : okC l) (hl : l.length ≤ n) (hm : l.length < m) (hn : n ≤ 200000) (h : patF (l.length + 1) l d = .ok (x, [])) : patL (fun r => termM (patF n) r d) m [] [] l = .ok (x, []) := by
  rw [pat_fuels (n := l.length + 1) (m := n + 1) (by omega) (by omega) ho (by omega)] at h
  have h2 : patL (fun r => termM (patF n) r d) (l.length + 1) [] [] l = .ok (x, []) := h
  rw [← patL_fuel (f := fun r => termM (patF n) r d) (l.length + 1) m [] [] l (by omega) (by omega) (fun r' y r2 q hx => term_sfx hx (sfx_ok q ho) (by have := sfx_len q; omega))]
  exact h2
theorem chars_alt {l1 l2 : List Str} {x y : Rx} {d : Nat} (o1 : okC l1) (o2 : okC l2) (hl : l1.length + l2.length ≤ 100000) (h1 : patF (l1.length + 1) l1 d = .ok (x, [])) (h2 : patF (l2.length + 1) l2 d = .ok (y, [])) :
    patF ((l1 ++ [124] :: l2).length + 1) (l1 ++ [124] :: l2) d = .ok (altR [x, y], []) := by
  have hlen : (l1 ++ [124] :: l2).length = l1.length + (l2.length + 1) := by simp
  obtain ⟨a, t, m, g1, g2, g3, g4, g5⟩ := pat_go (n := (l1 ++ [124] :: l2).length) (z := [124] :: l2) o1 ⟨by decide, by decide, by decide, by decide⟩ (by simp) (by omega) h1
  show patL (fun r => termM (patF (l1 ++ [124] :: l2).length) r d) ((l1 ++ [124] :: l2).length + 1) [] [] (l1 ++ [124] :: l2) = _
  rw [g2]
  obtain ⟨m, rfl⟩ : ∃ m', m = m' + 1 := ⟨m - 1, by omega⟩
  simp only [List.length_cons] at g3
  have h2' := pat_loop (n := (l1 ++ [124] :: l2).length) (m := m) o2 (by omega) (by omega) (by omega) h2
  obtain ⟨B, b1, b2, b3, b4⟩ := patL_pre m [] [] l2 h2' (fun y hy => by cases hy) (fun r' y r2 q hx => by
    have := term_all hx (sfx_ok q o2) (by have := sfx_len q; omega); exact ⟨this.1, this.2.2⟩)
  have h4 := b4 (a ++ [seqR t])
  rw [List.append_nil] at h4
  simp only [patL, if_neg (show ¬ ([124] : Str) = [41] by decide), if_pos, h4]
  have hA : InvA (a ++ [seqR t]) := g4.app fun y hy => by rw [List.mem_singleton] at hy; rw [hy]; exact (seqR_kind g5).1
  rw [g1, b3, List.nil_append, altR_two hA b2 (by simp) b1]
theorem noQ_ok {l : List Str} {x : Rx} {d n : Nat} (h : patF n l d = .ok (x, [])) : noQ l := by
  cases n with
  | zero => cases h
  | succ n =>
    cases l with
    | nil => trivial
    | cons c r =>
      have h' : patL (fun r => termM (patF n) r d) ((c :: r).length + 1) [] [] (c :: r) = .ok (x, []) := h
      have bad : ∀ c : Str, c ≠ [41] → c ≠ [124] → noAtom c = true → c ≠ [46] → c ≠ [40] → c ≠ [91] → c ≠ [92] → c ≠ [94] → c ≠ [36] → patL (fun r => termM (patF n) r d) ((c :: r).length + 1) [] [] (c :: r) ≠ .ok (x, []) := by
        intro c c1 c2 c3 c4 c5 c6 c7 c8 c9 h
        have ht : termM (patF n) (c :: r) d = .error 10 := by
          unfold termM
          have he : edgeM (c :: r) = none := by simp only [edgeM, if_neg c8, if_neg c9, if_neg c7]
          have ha : atomM (patF n) (c :: r) d = .error 10 := by simp only [atomM, if_neg c4, if_neg c5, if_neg c6, if_neg c7, if_pos c3]
          simp only [he, ha]
        simp only [patL, if_neg c1, if_neg c2, ht] at h
        cases h
      refine ⟨?_, ?_, ?_, ?_⟩
      · rintro rfl; exact bad [42] (by decide) (by decide) (by decide) (by decide) (by decide) (by decide) (by decide) (by decide) (by decide) h'
      · rintro rfl; exact bad [43] (by decide) (by decide) (by decide) (by decide) (by decide) (by decide) (by decide) (by decide) (by decide) h'
      · rintro rfl; exact bad [63] (by decide) (by decide) (by decide) (by decide) (by decide) (by decide) (by decide) (by decide) (by decide) h'
      · rintro rfl; exact bad [123] (by decide) (by decide) (by decide) (by decide) (by decide) (by decide) (by decide) (by decide) (by decide) h'
theorem chars_seq {l1 l2 : List Str} {x y : Rx} {d : Nat} (o1 : okC l1) (o2 : okC l2) (hl : l1.length + l2.length ≤ 100000) (h1 : patF (l1.length + 1) l1 d = .ok (x, [])) (h2 : patF (l2.length + 1) l2 d = .ok (y, [])) (hx : x.kind ≠ 1) (hy : y.kind ≠ 1) :
    patF ((l1 ++ l2).length + 1) (l1 ++ l2) d = .ok (seqR [x, y], []) := by
  have hlen : (l1 ++ l2).length = l1.length + l2.length := by simp
  obtain ⟨a, t, m, g1, g2, g3, g4, g5⟩ := pat_go (n := (l1 ++ l2).length) (z := l2) o1 (noQ_ok h2) (by omega) (by omega) h1
  show patL (fun r => termM (patF (l1 ++ l2).length) r d) ((l1 ++ l2).length + 1) [] [] (l1 ++ l2) = _
  rw [g2]
  have ha : a = [] := by
    rcases a with _ | ⟨u, a⟩
    · rfl
    · exfalso; apply hx; rw [g1]
      exact altR_kind (g4.app fun y hy => by rw [List.mem_singleton] at hy; rw [hy]; exact (seqR_kind g5).1) (by simp)
  subst ha
  have h2' := pat_loop (n := (l1 ++ l2).length) (m := m) o2 (by omega) g3 (by omega) h2
  obtain ⟨T, b1, b2, b3⟩ := patL_seq m [] l2 h2' hy (fun y hy => by cases hy) (fun r' y r2 q hx => by
    have := term_all hx (sfx_ok q o2) (by have := sfx_len q; omega); exact ⟨this.1, this.2.2⟩)
  have h4 := b3 t g5
  rw [List.append_nil, List.nil_append] at h4
  rw [h4, g1, b2, List.nil_append, List.nil_append, altR_one' (seqR_kind g5).1, seqR_two g5 b1]
/-! ### characters of texts -/
theorem split_fuel : ∀ (k : Nat) (l : Str), l.length ≤ k → splitF k l = splitM l
  | k, l, h => by
    have key : ∀ (n k : Nat) (l : Str), l.length ≤ n → n ≤ k → splitF k l = splitF n l := by
      intro n
      induction n with
      | zero => intro k l h1 h2; obtain rfl := List.eq_nil_of_length_eq_zero (Nat.le_zero.1 h1); cases k <;> rfl
      | succ n ih =>
        intro k l h1 h2
        obtain ⟨k, rfl⟩ : ∃ k', k = k' + 1 := ⟨k - 1, by omega⟩
        cases l with
        | nil => rfl
        | cons c r =>
          have hd : (r.dropWhile insideB).length ≤ r.length := (List.dropWhile_suffix insideB).length_le
          simp only [List.length_cons] at h1
          simp only [splitF]
          rw [ih k _ (by omega) (by omega)]
    exact key l.length k l (Nat.le_refl _) h
theorem splitM_cons' (c : UInt8) (r : Str) : splitM (c :: r) = (c :: r.takeWhile insideB) :: splitM (r.dropWhile insideB) := by
  have hd : (r.dropWhile insideB).length ≤ r.length := (List.dropWhile_suffix insideB).length_le
  show splitF (r.length + 1) (c :: r) = _
  simp only [splitF]
  rw [split_fuel r.length _ hd]
/-- A text begins with a character's first byte, or is empty. -/
def headP : Str → Prop
  | [] => True
  | c :: _ => insideB c = false
theorem takeWhile_app {p : UInt8 → Bool} {a b : Str} (hb : ∀ c r, b = c :: r → p c = false) : (a ++ b).takeWhile p = a.takeWhile p ∧ (a ++ b).dropWhile p = a.dropWhile p ++ b := by
  induction a with
  | nil =>
    cases b with
    | nil => exact ⟨rfl, rfl⟩
    | cons c r => have := hb c r rfl; simp [this]
  | cons x a ih =>
    cases hx : p x with
    | true => simp [hx, ih.1, ih.2]
    | false => simp [hx]
theorem splitM_app : ∀ (n : Nat) (s t : Str), s.length ≤ n → headP t → splitM (s ++ t) = splitM s ++ splitM t
  | _, [], t, _, _ => rfl
  | 0, c :: r, t, h, _ => by simp at h
  | n + 1, c :: r, t, h, ht => by
    have hd : (r.dropWhile insideB).length ≤ r.length := (List.dropWhile_suffix insideB).length_le
    simp only [List.length_cons] at h
    obtain ⟨e1, e2⟩ := takeWhile_app (p := insideB) (a := r) (b := t) (fun c' r' e => by subst e; exact ht)
    rw [List.cons_append, splitM_cons', splitM_cons', e1, e2, splitM_app n _ t (by omega) ht]; rfl
theorem splitM_len (s : Str) : (splitM s).length ≤ s.length := (splitF_facts s.length s).2
theorem splitM_ok {s : Str} (h : s.length ≤ 1000000) : okC (splitM s) := fun p hp => by
  have := (splitF_facts s.length s).1 p hp
  exact ⟨this.1, by omega⟩
/-- What it is to be read. -/
theorem readM_ok {s : Str} {x : Rx} : readM s = .ok x ↔ s.length ≤ 256 ∧ headP s ∧ patF ((splitM s).length + 1) (splitM s) 0 = .ok (x, []) := by
  unfold readM
  have rc : ∀ l : List Str, readC l = .ok x ↔ patF (l.length + 1) l 0 = .ok (x, []) := by
    intro l
    unfold readC
    cases patF (l.length + 1) l 0 with
    | error e => simp
    | ok y =>
      obtain ⟨y, r⟩ := y
      cases r with
      | nil => simp
      | cons c r => simp
  by_cases hl : 256 < s.length
  · rw [if_pos hl]
    exact ⟨(fun h => by cases h), fun h => by omega⟩
  rw [if_neg hl]
  cases s with
  | nil =>
    have : splitM [] = [] := rfl
    rw [this]
    simp only [rc]
    exact ⟨fun h => ⟨by simp, trivial, h⟩, fun h => h.2.2⟩
  | cons c r =>
    rw [splitM_cons']
    have hp : properB (c :: r.takeWhile insideB) = !insideB c := by
      show (!insideB c && (r.takeWhile insideB).all insideB) = _
      have : (r.takeWhile insideB).all insideB = true := List.all_takeWhile ..
      rw [this, Bool.and_true]
    simp only [hp]
    cases hc : insideB c with
    | true => simp [headP, hc]
    | false =>
      simp only [Bool.not_false, if_true]
      rw [rc]
      exact ⟨fun h => ⟨by omega, hc, h⟩, fun h => h.2.2⟩
theorem read_alt {s t : Str} {x y : Rx} (hl : s.length + t.length ≤ 255) (h1 : readM s = .ok x) (h2 : readM t = .ok y) : readM (s ++ 124 :: t) = .ok (altR [x, y]) := by
  obtain ⟨a1, a2, a3⟩ := readM_ok.1 h1
  obtain ⟨b1, b2, b3⟩ := readM_ok.1 h2
  have e1 : splitM (s ++ 124 :: t) = splitM s ++ [124] :: splitM t := by
    rw [splitM_app _ s (124 :: t) (Nat.le_refl _) (show insideB 124 = false by decide)]
    rw [show (124 : UInt8) :: t = [124] ++ t from rfl, splitM_app _ [124] t (Nat.le_refl _) b2]; rfl
  refine readM_ok.2 ⟨by simp; omega, ?_, ?_⟩
  · cases s with
    | nil => exact (show insideB 124 = false by decide)
    | cons c s => exact a2
  · rw [e1]
    have := splitM_len s; have := splitM_len t
    exact chars_alt (splitM_ok (by omega)) (splitM_ok (by omega)) (by omega) a3 b3
theorem read_seq {s t : Str} {x y : Rx} (hl : s.length + t.length ≤ 256) (h1 : readM s = .ok x) (h2 : readM t = .ok y) (hx : x.kind ≠ 1) (hy : y.kind ≠ 1) : readM (s ++ t) = .ok (seqR [x, y]) := by
  obtain ⟨a1, a2, a3⟩ := readM_ok.1 h1
  obtain ⟨b1, b2, b3⟩ := readM_ok.1 h2
  refine readM_ok.2 ⟨by simp; omega, ?_, ?_⟩
  · cases s with
    | nil => exact b2
    | cons c s => exact a2
  · rw [splitM_app _ s t (Nat.le_refl _) b2]
    have := splitM_len s; have := splitM_len t
    exact chars_seq (splitM_ok (by omega)) (splitM_ok (by omega)) (by omega) a3 b3 hx hy
end Go.Proofs.Ytemophfieihgaaa
set_option maxRecDepth 100000
namespace Go.Proofs.Ytemophfieihgaaa
theorem deepL_app : ∀ (a b : List Rx), Rx.deepL (a ++ b) = max (Rx.deepL a) (Rx.deepL b)
  | [], b => by simp [Rx.deepL]
  | x :: a, b => by simp only [List.cons_append, Rx.deepL, deepL_app a b]; omega
theorem kids_deep {x : Rx} (h : x.kind = 0 ∨ x.kind = 1) : Rx.deepL x.kids = x.deep := by
  obtain ⟨k, c, ng, rs, lo, hi, lz, ks⟩ := x
  simp only [Rx.kind] at h
  simp only [Rx.kids, Rx.deep]
  rw [if_neg (by omega)]; omega
theorem flat_deep {kd : Int} (hk : kd = 0 ∨ kd = 1) : ∀ xs : List Rx, Rx.deepL (flatL kd xs) = Rx.deepL xs
  | [] => rfl
  | x :: xs => by
    rw [flatL_cons, deepL_app, flat_deep hk xs]
    simp only [Rx.deepL]
    by_cases h : x.kind = kd
    · rw [if_pos h, kids_deep (by rw [h]; exact hk)]
    · rw [if_neg h]; simp only [Rx.deepL]; omega
theorem seqR_deep (xs : List Rx) : (seqR xs).deep = Rx.deepL xs := by
  have h := flat_deep (kd := 0) (.inl rfl) xs
  unfold seqR
  split
  · rename_i y hy; rw [hy] at h; simp only [Rx.deepL] at h; omega
  · rename_i l _; unfold kind0; simp only [Rx.deep]; rw [if_neg (by decide), h]; rfl
theorem altR_deep (xs : List Rx) : (altR xs).deep = Rx.deepL xs := by
  have h := flat_deep (kd := 1) (.inr rfl) xs
  unfold altR
  split
  · rename_i hy; rw [hy] at h; exact h
  · rename_i y hy; rw [hy] at h; simp only [Rx.deepL] at h; omega
  · unfold kind1; simp only [Rx.deep]; rw [if_neg (by decide), h]; rfl
theorem end_deep (alts terms : List Rx) : (altR (alts ++ [seqR terms])).deep = max (Rx.deepL alts) (Rx.deepL terms) := by
  rw [altR_deep, deepL_app]; simp only [Rx.deepL, seqR_deep]; omega
theorem rep_deep (lo hi : Int) (lz : Bool) (x : Rx) : (repR lo hi lz x).deep = x.deep := by
  unfold repR; simp only [Rx.deep, Rx.deepL]; rw [if_neg (by decide)]; omega
theorem grp_deep {k : Int} (hk : k = 5 ∨ k = 6) (x : Rx) : (grpR k x).deep = x.deep + 1 := by
  unfold grpR; simp only [Rx.deep, Rx.deepL]; rw [if_pos hk]; omega
def PatDeep (pat : List Str → Nat → Res) (z : List Str) (N : Nat) : Prop := ∀ (r : List Str) (d : Nat) (x : Rx) (r1 : List Str) (d' : Nat), r.length + z.length ≤ N → okC r → pat r d = .ok (x, r1) → d' ≤ 16 →
  (x.deep + d' ≤ 16 → (r1 ≠ [] ∨ z = []) → pat (r ++ z) d' = .ok (x, r1 ++ z)) ∧ (16 < x.deep + d' → pat (r ++ z) d' = .error 8)
theorem group_deep {pat : List Str → Nat → Res} {z : List Str} {N : Nat} (hp : PatDeep pat z N) (hnil : ∀ d, pat [] d = .ok (kind0 [], []) ∨ ∃ e, pat [] d = .error e) {r r1 : List Str} {d d' : Nat} {x : Rx} (h : groupM pat r d = .ok (x, r1)) (ho : okC r) (hN : r.length + z.length ≤ N) (hd' : d' ≤ 16) :
    (x.deep + d' ≤ 16 → groupM pat (r ++ z) d' = .ok (x, r1 ++ z)) ∧ (16 < x.deep + d' → groupM pat (r ++ z) d' = .error 8) := by
  unfold groupM at h ⊢
  by_cases hd : 16 ≤ d
  · rw [if_pos hd] at h; cases h
  rw [if_neg hd] at h
  cases hk : groupK r with
  | none => simp only [hk] at h; cases h
  | some y =>
    obtain ⟨k, r0⟩ := y
    obtain ⟨ks, kk⟩ := groupK_sfx hk
    simp only [hk] at h
    have hr : r ≠ [] := by
      rintro rfl
      have e0 : r0 = [] := List.suffix_nil.1 ks
      subst e0
      rcases hnil (d + 1) with e | ⟨e, he⟩
      · simp only [e, takeM] at h; cases h
      · simp only [he] at h; cases h
    cases hx : pat r0 (d + 1) with
    | error e => simp only [hx] at h; cases h
    | ok y =>
      obtain ⟨w, r2⟩ := y
      simp only [hx] at h
      cases ht : takeM [41] r2 with
      | none => simp only [ht] at h; cases h
      | some r3 =>
        simp only [ht] at h
        injection h with h; injection h with h3 h4; subst h3 h4
        have h2 : r2 ≠ [] := by rintro rfl; cases ht
        have hl := sfx_len ks
        have hde := grp_deep kk w
        by_cases h16 : 16 ≤ d'
        · rw [if_pos h16]
          exact ⟨fun q => by omega, fun _ => rfl⟩
        rw [if_neg h16]
        simp only [groupK_app z hk hr]
        obtain ⟨p1, p2⟩ := hp r0 (d + 1) w r2 (d' + 1) (by omega) (sfx_ok ks ho) hx (by omega)
        refine ⟨fun q => ?_, fun q => ?_⟩
        · simp only [p1 (by omega) (.inl h2), takeM_app z ht]
        · simp only [p2 (by omega)]
theorem atom_deep {pat : List Str → Nat → Res} {z : List Str} {N : Nat} (hp : PatDeep pat z N) (hnil : ∀ d, pat [] d = .ok (kind0 [], []) ∨ ∃ e, pat [] d = .error e) {r r1 : List Str} {d d' : Nat} {x : Rx} (h : atomM pat r d = .ok (x, r1)) (ho : okC r) (hN : r.length + z.length ≤ N + 1) (hd' : d' ≤ 16) :
    (x.deep + d' ≤ 16 → atomM pat (r ++ z) d' = .ok (x, r1 ++ z)) ∧ (16 < x.deep + d' → atomM pat (r ++ z) d' = .error 8) := by
  cases r with
  | nil => cases h
  | cons c r =>
    simp only [List.length_cons] at hN
    simp only [atomM, List.cons_append] at h ⊢
    have flat : ∀ {res : Res}, x.deep = 0 → res = .ok (x, r1 ++ z) → (x.deep + d' ≤ 16 → res = .ok (x, r1 ++ z)) ∧ (16 < x.deep + d' → res = .error 8) := fun h0 hr => ⟨fun _ => hr, fun q => by omega⟩
    by_cases h1 : c = [46]
    · rw [if_pos h1] at h ⊢; injection h with h; injection h with ha hb; subst ha hb; exact flat rfl rfl
    rw [if_neg h1] at h ⊢
    by_cases h2 : c = [40]
    · rw [if_pos h2] at h ⊢; exact group_deep hp hnil h ho.tail (by omega) hd'
    rw [if_neg h2] at h ⊢
    by_cases h3 : c = [91]
    · rw [if_pos h3] at h ⊢
      refine flat ?_ (class_app z h)
      unfold classM at h
      simp only at h
      generalize classL _ _ _ = q at h
      cases q with
      | none => simp only at h; cases h
      | some y => simp only at h; injection h with h; injection h with ha _; subst ha; rfl
    rw [if_neg h3] at h ⊢
    by_cases h4 : c = [92]
    · rw [if_pos h4] at h ⊢
      refine flat ?_ (esc_app z h)
      cases r with
      | nil => cases h
      | cons c2 r2 =>
        simp only [escM] at h
        cases hn : namedS c2 with
        | some rows => simp only [hn] at h; injection h with h; injection h with ha _; subst ha; rfl
        | none =>
          simp only [hn] at h
          cases hb : bigS c2 with
          | some rows => simp only [hb] at h; injection h with h; injection h with ha _; subst ha; rfl
          | none =>
            simp only [hb] at h
            cases hpm : plainM c2 with
            | none => simp only [hpm] at h; cases h
            | some t => simp only [hpm] at h; injection h with h; injection h with ha _; subst ha; rfl
    rw [if_neg h4] at h ⊢
    by_cases h5 : noAtom c = true
    · rw [if_pos h5] at h; cases h
    · rw [if_neg h5] at h ⊢; injection h with h; injection h with ha hb; subst ha hb; exact flat rfl rfl
theorem edge_deep {r r1 : List Str} {x : Rx} (h : edgeM r = some (x, r1)) : x.deep = 0 := by
  cases r with
  | nil => cases h
  | cons c r =>
    simp only [edgeM] at h
    by_cases h1 : c = [94]
    · rw [if_pos h1] at h; injection h with h; injection h with ha _; subst ha; rfl
    rw [if_neg h1] at h
    by_cases h2 : c = [36]
    · rw [if_pos h2] at h; injection h with h; injection h with ha _; subst ha; rfl
    rw [if_neg h2] at h
    by_cases h3 : c = [92]
    · rw [if_pos h3] at h
      cases h4 : takeM [98] r with
      | some r2 => simp only [h4] at h; injection h with h; injection h with ha _; subst ha; rfl
      | none =>
        simp only [h4] at h
        cases h5 : takeM [66] r with
        | some r2 => simp only [h5] at h; injection h with h; injection h with ha _; subst ha; rfl
        | none => simp only [h5] at h; cases h
    · rw [if_neg h3] at h; cases h
theorem term_deep {pat : List Str → Nat → Res} {z : List Str} {N : Nat} (hp : PatDeep pat z N) (hnil : ∀ d, pat [] d = .ok (kind0 [], []) ∨ ∃ e, pat [] d = .error e) {r r1 : List Str} {d d' : Nat} {x : Rx} (h : termM pat r d = .ok (x, r1)) (ho : okC r) (hN : r.length + z.length ≤ N + 1) (hd' : d' ≤ 16) :
    (x.deep + d' ≤ 16 → (r1 ≠ [] ∨ noQ z) → termM pat (r ++ z) d' = .ok (x, r1 ++ z)) ∧ (16 < x.deep + d' → termM pat (r ++ z) d' = .error 8) := by
  unfold termM at h ⊢
  cases he : edgeM r with
  | some y =>
    simp only [he] at h
    obtain ⟨a, b⟩ := y
    injection h with h; injection h with ha hb; subst ha hb
    have h0 := edge_deep he
    simp only [edge_app z he]
    exact ⟨fun _ _ => (by first | rfl | trivial), fun q => by omega⟩
  | none =>
    simp only [he] at h
    cases ha : atomM pat r d with
    | error e => simp only [ha] at h; cases h
    | ok y =>
      obtain ⟨w, r2⟩ := y
      simp only [ha] at h
      have hr : r ≠ [] := by rintro rfl; cases ha
      have h92 : r ≠ [[92]] := by rintro rfl; simp [atomM, escM] at ha
      have hde : x.deep = w.deep := by
        rcases quant_facts h with ⟨rfl, _⟩ | ⟨⟨lo, hi, lz, rfl⟩, _⟩
        · rfl
        · exact rep_deep _ _ _ _
      obtain ⟨p1, p2⟩ := atom_deep hp hnil ha ho hN hd'
      simp only [edge_app0 z he hr h92]
      refine ⟨fun q hz => ?_, fun q => ?_⟩
      · simp only [p1 (by omega)]; exact quant_app z h hz
      · simp only [p2 (by omega)]
theorem patL_rest {f : List Str → Res} {k : Nat} {alts terms : List Rx} {x : Rx} {r1 : List Str} (h : patL f k alts terms [] = .ok (x, r1)) : x = altR (alts ++ [seqR terms]) ∧ r1 = [] := by
  cases k with
  | zero => cases h
  | succ k => simp only [patL] at h; injection h with h; injection h with h1 h2; exact ⟨h1.symm, h2.symm⟩
theorem patL_deep {f f' : List Str → Res} {z : List Str} {d' : Nat} : ∀ (k m : Nat) (alts terms : List Rx) (r : List Str) {x : Rx} {r1 : List Str}, k ≤ m → patL f k alts terms r = .ok (x, r1) →
    (∀ r' y r2, r' <:+ r → f r' = .ok (y, r2) → (y.deep + d' ≤ 16 → (r2 ≠ [] ∨ noQ z) → f' (r' ++ z) = .ok (y, r2 ++ z)) ∧ (16 < y.deep + d' → f' (r' ++ z) = .error 8)) →
    (∀ r' y r2, r' <:+ r → f r' = .ok (y, r2) → r2 <:+ r') → Rx.deepL alts + d' ≤ 16 → Rx.deepL terms + d' ≤ 16 →
    (x.deep + d' ≤ 16 → (r1 ≠ [] ∨ z = []) → patL f' m alts terms (r ++ z) = .ok (x, r1 ++ z)) ∧ (16 < x.deep + d' → patL f' m alts terms (r ++ z) = .error 8)
  | 0, _, _, _, _, _, _, _, h, _, _, _, _ => by cases h
  | k + 1, m, alts, terms, r, x, r1, hm, h, ht, hs, da, dt => by
    obtain ⟨m, rfl⟩ : ∃ m', m = m' + 1 := ⟨m - 1, by omega⟩
    cases r with
    | nil =>
      obtain ⟨e1, e2⟩ := patL_rest h
      subst e1 e2
      have hd := end_deep alts terms
      refine ⟨fun _ q => ?_, fun q => by omega⟩
      obtain rfl := q.resolve_left (fun q => q rfl)
      rfl
    | cons c r =>
      simp only [patL, List.cons_append] at h ⊢
      by_cases h1 : c = [41]
      · rw [if_pos h1] at h ⊢
        injection h with h; injection h with ha hb; subst ha hb
        have hd := end_deep alts terms
        exact ⟨fun _ _ => (by first | rfl | trivial), fun q => by omega⟩
      rw [if_neg h1] at h ⊢
      by_cases h2 : c = [124]
      · rw [if_pos h2] at h ⊢
        have := patL_deep k m _ _ r (by omega) h (fun r' y r2 q => ht r' y r2 (sfx_cons q)) (fun r' y r2 q => hs r' y r2 (sfx_cons q)) (by rw [deepL_app]; simp only [Rx.deepL, seqR_deep]; omega) (by simp only [Rx.deepL]; omega)
        exact this
      rw [if_neg h2] at h ⊢
      cases hx : f (c :: r) with
      | error e => simp only [hx] at h; cases h
      | ok y =>
        obtain ⟨w, r2⟩ := y
        simp only [hx] at h
        have s := hs _ _ _ (List.suffix_refl _) hx
        obtain ⟨t1, t2⟩ := ht _ _ _ (List.suffix_refl _) hx
        rw [List.cons_append] at t1 t2
        by_cases hw : w.deep + d' ≤ 16
        · have rc0 := patL_deep k m alts (terms ++ [w]) r2 (by omega) h (fun r' y r3 q => ht r' y r3 (q.trans s)) (fun r' y r3 q => hs r' y r3 (q.trans s)) da (by rw [deepL_app]; simp only [Rx.deepL]; omega)
          have hr2 : r2 = [] → x.deep + d' ≤ 16 := by
            rintro rfl
            obtain ⟨e1, _⟩ := patL_rest h
            rw [e1, end_deep, deepL_app]; simp only [Rx.deepL]; omega
          refine ⟨fun q1 q2 => ?_, fun q => ?_⟩
          · have hz : r2 ≠ [] ∨ noQ z := by
              rcases q2 with q2 | q2
              · exact .inl (by rintro rfl; exact q2 (patL_rest h).2)
              · exact .inr (by rw [q2]; trivial)
            simp only [t1 hw hz]
            exact rc0.1 q1 q2
          · have h2' : r2 ≠ [] := fun e => by have := hr2 e; omega
            simp only [t1 hw (.inl h2')]
            exact rc0.2 q
        · have h8 := t2 (by omega)
          have hxd : 16 < x.deep + d' → True := fun _ => trivial
          refine ⟨fun q1 _ => ?_, fun _ => by simp only [h8]⟩
          exfalso
          have key : ∀ (k : Nat) (alts terms : List Rx) (r : List Str) {x : Rx} {r1 : List Str}, patL f k alts terms r = .ok (x, r1) → Rx.deepL terms ≤ x.deep ∧ Rx.deepL alts ≤ x.deep := by
            intro k
            induction k with
            | zero => intro alts terms r x r1 h; cases h
            | succ k ih =>
              intro alts terms r x r1 h
              cases r with
              | nil => obtain ⟨e1, _⟩ := patL_rest h; rw [e1, end_deep]; omega
              | cons c r =>
                simp only [patL] at h
                by_cases h1 : c = [41]
                · rw [if_pos h1] at h; injection h with h; injection h with ha _; rw [← ha, end_deep]; omega
                rw [if_neg h1] at h
                by_cases h2 : c = [124]
                · rw [if_pos h2] at h
                  have := (ih _ _ _ h).2
                  rw [deepL_app] at this; simp only [Rx.deepL, seqR_deep] at this; omega
                rw [if_neg h2] at h
                cases hx : f (c :: r) with
                | error e => simp only [hx] at h; cases h
                | ok y =>
                  simp only [hx] at h
                  have := ih _ _ _ h
                  rw [deepL_app] at this; simp only [Rx.deepL] at this; omega
          have := (key _ _ _ _ h).1
          rw [deepL_app] at this; simp only [Rx.deepL] at this; omega
end Go.Proofs.Ytemophfieihgaaa
set_option maxRecDepth 100000
namespace Go.Proofs.Ytemophfieihgaaa
theorem pat_deep (z : List Str) : ∀ (n : Nat), n ≤ 200000 → PatDeep (patF n) z n
  | 0, _ => fun r d x r1 d' _ _ h _ => by cases h
  | n + 1, hn => fun r d x r1 d' hl ho h hd' => by
    have ih := pat_deep z n (by omega)
    have h' : patL (fun r => termM (patF n) r d) (r.length + 1) [] [] r = .ok (x, r1) := h
    exact patL_deep (f := fun r => termM (patF n) r d) (f' := fun r => termM (patF n) r d') (r.length + 1) ((r ++ z).length + 1) [] [] r (by simp) h'
      (fun r' y r2 hs hx => term_deep ih (pat_nil n) hx (sfx_ok hs ho) (by have := sfx_len hs; omega) hd') (fun r' y r2 hs hx => (term_sfx hx (sfx_ok hs ho) (by have := sfx_len hs; omega)).1) (by simp only [Rx.deepL]; omega) (by simp only [Rx.deepL]; omega)
/-- Characters that are read as x at any depth, if that is not too deep: up to their end, or a closing bracket behind. -/
def Rdg (l : List Str) (x : Rx) : Prop := okC l ∧ noQ l ∧ ∀ (n : Nat) (z : List Str) (d : Nat), (z = [] ∨ ∃ z', z = [41] :: z') → okC z → d ≤ 16 → (l ++ z).length < n → n ≤ 200000 →
  patF n (l ++ z) d = if x.deep + d ≤ 16 then .ok (x, z) else .error 8
theorem Rdg.of {l : List Str} {x : Rx} (ho : okC l) (h : patF (l.length + 1) l 0 = .ok (x, [])) : Rdg l x := by
  refine ⟨ho, noQ_ok h, fun n z d hz hoz hd hl hn => ?_⟩
  have hll : l.length + z.length < n := by simpa using hl
  have h0 : patF n l 0 = .ok (x, []) := by rw [← h]; exact pat_fuels (by omega) (by omega) ho (by omega)
  by_cases hx : x.deep + d ≤ 16
  · rw [if_pos hx]
    have h1 : patF n l d = .ok (x, []) := by
      have := (pat_deep [] n hn l 0 x [] d (by simp; omega) ho h0 hd).1 hx (.inr rfl)
      simpa using this
    rcases hz with rfl | ⟨z', rfl⟩
    · simpa using h1
    · have h2 : patF (l.length + 1) l d = .ok (x, []) := by rw [← h1]; exact pat_fuels (by omega) (by omega) ho (by omega)
      obtain ⟨n, rfl⟩ : ∃ n', n = n' + 1 := ⟨n - 1, by omega⟩
      obtain ⟨a, t, m, g1, g2, g3, g4, g5⟩ := pat_go (n := n) (z := [41] :: z') ho ⟨by decide, by decide, by decide, by decide⟩ (by omega) (by omega) h2
      show patL (fun r => termM (patF n) r d) ((l ++ [41] :: z').length + 1) [] [] (l ++ [41] :: z') = _
      rw [g2]
      obtain ⟨m, rfl⟩ : ∃ m', m = m' + 1 := ⟨m - 1, by omega⟩
      simp only [patL, if_true]; rw [g1]
  · rw [if_neg hx]
    exact (pat_deep z n hn l 0 x [] d (by omega) ho h0 hd).2 (by omega)
/-- A group's opening, by its kind. -/
def opn (bare : Bool) : List Str := if bare = true then [[40], [63], [58]] else [[40]]
def gk (bare : Bool) : Int := if bare = true then 6 else 5
/-- A term that is a group with z behind it. -/
theorem Rdg.term {l z : List Str} {x : Rx} (h : Rdg l x) (bare : Bool) (n d : Nat) (hoz : okC z) (hd : d ≤ 16) (hl : (l ++ [41] :: z).length < n) (hn : n ≤ 200000) :
    termM (patF n) (opn bare ++ (l ++ [41] :: z)) d = if x.deep + 1 + d ≤ 16 then quantM (grpR (gk bare) x) z else .error 8 := by
  obtain ⟨h1, h2, h3⟩ := h
  have hgr : ∀ r, groupK r = some (gk bare, l ++ [41] :: z) → groupM (patF n) r d = if x.deep + 1 + d ≤ 16 then .ok (grpR (gk bare) x, z) else .error 8 := by
    intro r hk
    unfold groupM
    by_cases h16 : 16 ≤ d
    · rw [if_pos h16, if_neg (by omega)]
    rw [if_neg h16]
    simp only [hk]
    rw [h3 n ([41] :: z) (d + 1) (.inr ⟨z, rfl⟩) (fun p hp => by
      rcases List.mem_cons.1 hp with rfl | hp
      · exact ⟨by simp, by simp⟩
      · exact hoz p hp) (by omega) hl hn]
    by_cases hx : x.deep + (d + 1) ≤ 16
    · rw [if_pos hx, if_pos (by omega)]; simp only [takeM, if_true]
    · rw [if_neg hx, if_neg (by omega)]
  have hte : ∀ r, groupK r = some (gk bare, l ++ [41] :: z) → termM (patF n) ([40] :: r) d = if x.deep + 1 + d ≤ 16 then quantM (grpR (gk bare) x) z else .error 8 := by
    intro r hk
    unfold termM
    have he : edgeM ([40] :: r) = none := by simp [edgeM]
    have ha : atomM (patF n) ([40] :: r) d = groupM (patF n) r d := by simp [atomM]
    simp only [he, ha, hgr r hk]
    by_cases hx : x.deep + 1 + d ≤ 16
    · rw [if_pos hx, if_pos hx]
    · rw [if_neg hx, if_neg hx]
  cases bare with
  | true => exact hte ([63] :: [58] :: (l ++ [41] :: z)) (by simp [groupK, takeM, gk])
  | false =>
    refine hte (l ++ [41] :: z) ?_
    unfold groupK
    have : takeM [63] (l ++ [41] :: z) = none := by
      cases l with
      | nil => simp [takeM]
      | cons c l => simp only [List.cons_append, takeM, if_neg h2.2.2.1]
    simp only [this]; rfl
def wrp (bare : Bool) (l : List Str) : List Str := opn bare ++ (l ++ [[41]])
theorem opn_ok (bare : Bool) : okC (opn bare) := by
  intro p hp
  cases bare <;> simp [opn] at hp
  · subst hp; exact ⟨by simp, by simp⟩
  · rcases hp with rfl | rfl | rfl <;> exact ⟨by simp, by simp⟩
theorem opn_cons (bare : Bool) : ∃ r, opn bare = [40] :: r := by cases bare <;> exact ⟨_, rfl⟩
theorem gk_or (bare : Bool) : gk bare = 5 ∨ gk bare = 6 := by cases bare <;> simp [gk]
theorem Rdg.wrap {l : List Str} {x : Rx} (h : Rdg l x) (bare : Bool) : Rdg (wrp bare l) (grpR (gk bare) x) := by
  have ho := h.1
  obtain ⟨ro, hro⟩ := opn_cons bare
  refine ⟨okC_app (opn_ok bare) (okC_app ho fun p hp => by rw [List.mem_singleton] at hp; subst hp; exact ⟨by simp, by simp⟩), ?_, fun n z d hz hoz hd hl hn => ?_⟩
  · unfold wrp; rw [hro]; exact ⟨by decide, by decide, by decide, by decide⟩
  · obtain ⟨n, rfl⟩ : ∃ n', n = n' + 1 := ⟨n - 1, by omega⟩
    have e1 : wrp bare l ++ z = opn bare ++ (l ++ [41] :: z) := by simp [wrp]
    have hl' : (l ++ [41] :: z).length < n := by
      rw [e1, List.length_append] at hl
      have : 1 ≤ (opn bare).length := by rw [hro]; simp
      omega
    have hlen : (wrp bare l ++ z).length = (opn bare ++ (l ++ [41] :: z)).length := by rw [e1]
    show patL (fun r => termM (patF n) r d) ((wrp bare l ++ z).length + 1) [] [] (wrp bare l ++ z) = _
    have ht := h.term (z := z) bare n d hoz hd hl' (by omega)
    obtain ⟨K, hK⟩ : ∃ K, (wrp bare l ++ z).length = K + 1 := ⟨(ro ++ (l ++ [41] :: z)).length, by rw [hlen, hro]; simp⟩
    rw [hK, e1]
    rw [hro, List.cons_append] at ht ⊢
    rw [grp_deep (gk_or bare)]
    simp only [patL, if_neg (show ¬ ([40] : Str) = [41] by decide), if_neg (show ¬ ([40] : Str) = [124] by decide), ht]
    by_cases hx : x.deep + 1 + d ≤ 16
    · rw [if_pos hx, if_pos hx]
      have hkind : (grpR (gk bare) x).kind ≠ 0 ∧ (grpR (gk bare) x).kind ≠ 1 := by cases bare <;> simp [grpR, gk, Rx.kind]
      have hT : InvT [grpR (gk bare) x] := fun y hy => by rw [List.mem_singleton] at hy; rw [hy]; exact hkind
      have hseq : seqR [grpR (gk bare) x] = grpR (gk bare) x := by
        unfold seqR; rw [flatL_id (fun y hy => (hT y hy).1)]
      have hend : altR ([] ++ [seqR ([] ++ [grpR (gk bare) x])]) = grpR (gk bare) x := by
        rw [List.nil_append, List.nil_append, hseq, altR_one' hkind.2]
      rcases hz with rfl | ⟨z', rfl⟩
      · simp only [quantM, hend]
      · have hq : quantM (grpR (gk bare) x) ([41] :: z') = .ok (grpR (gk bare) x, [41] :: z') := by simp [quantM]
        simp only [hq, if_true, hend]
    · rw [if_neg hx, if_neg hx]
end Go.Proofs.Ytemophfieihgaaa
set_option maxRecDepth 100000
namespace Go.Proofs.Ytemophfieihgaaa
theorem leS_trans {a b c : Str} (h1 : leS a b = true) (h2 : leS b c = true) : leS a c = true := by
  unfold leS at *
  rw [Bool.or_eq_true, beq_iff_eq] at *
  rcases h1 with h1 | rfl
  · rcases h2 with h2 | rfl
    · exact .inl (less_trans h1 h2)
    · exact .inl h1
  · exact h2
theorem mrgS_rows {out : List Row} {r : Row} (h : rowsB out = true) (hr : rowB r = true) : rowsB (mrgS out r) = true := by
  have app : ∀ (l : List Row) (p : Option Str) (x : Row), rowsL p (l ++ [x]) = (rowsL p l && rowsL (match l.getLast? with | none => p | some q => some q.2) [x]) := by
    intro l
    induction l with
    | nil => intro p x; simp [rowsL]
    | cons y l ih =>
      intro p x
      rw [List.cons_append]
      show (rowB y && _ && rowsL (some y.2) (l ++ [x])) = (rowB y && _ && rowsL (some y.2) l && _)
      rw [ih]
      cases l with
      | nil => simp [rowsL, Bool.and_assoc]
      | cons z l =>
        rw [List.getLast?_cons_cons]
        obtain ⟨q, hq⟩ : ∃ q, (z :: l).getLast? = some q := by
          rcases List.eq_nil_or_concat (z :: l) with h | ⟨B, q, h⟩
          · cases h
          · rw [h, List.concat_eq_append, List.getLast?_concat]; exact ⟨_, rfl⟩
        simp only [hq, Bool.and_assoc]
  rcases List.eq_nil_or_concat out with rfl | ⟨B, q, rfl⟩
  · rw [mrgS_nil]; simp [rowsB, rowsL, hr]
  · rw [List.concat_eq_append] at h ⊢
    have h' := h
    unfold rowsB at h'
    rw [app] at h'
    have h1 := (Bool.and_eq_true_iff.1 h').1
    have h2 := (Bool.and_eq_true_iff.1 h').2
    cases hl : leS r.1 q.2 with
    | false =>
      rw [mrgS_gt hl]
      unfold rowsB at h ⊢
      rw [app, h, List.getLast?_concat]
      simp [rowsL, hr, hl]
    | true =>
      rw [mrgS_le hl]
      unfold rowsB
      rw [app, h1, Bool.true_and]
      generalize (match B.getLast? with | none => (none : Option Str) | some q => some q.2) = p at h2 ⊢
      simp only [rowsL, Bool.and_true, Bool.and_eq_true] at h2 ⊢
      refine ⟨?_, h2.2⟩
      have hq := h2.1
      unfold rowB at hq hr ⊢
      simp only [Bool.and_eq_true] at hq hr ⊢
      unfold mxS
      by_cases hm : Op.bytesLess q.2 r.2 = true
      · rw [if_pos hm]
        refine ⟨⟨hq.1.1, hr.1.2⟩, ?_⟩
        have h3 : leS q.2 r.2 = true := by unfold leS; rw [hm, Bool.true_or]
        exact leS_trans hq.2 h3
      · rw [if_neg hm]; exact hq
theorem unionM_rows (rs : List Row) : rowsB (unionM rs) = true := by
  have h1 : ∀ q ∈ stL (filR rs), rowB q = true := fun q hq => (List.mem_filter.1 ((stL_sorted _).1.mem_iff.1 hq)).2
  unfold unionM mrgL
  have key : ∀ (l out : List Row), (∀ q ∈ l, rowB q = true) → rowsB out = true → rowsB (l.foldl mrgS out) = true := by
    intro l
    induction l with
    | nil => intro out _ h; exact h
    | cons r l ih => intro out h1 h2; exact ih _ (fun q hq => h1 q (List.mem_cons_of_mem _ hq)) (mrgS_rows h2 (h1 r (List.mem_cons_self ..)))
  exact key _ _ h1 rfl
def prC (l : List Str) : Prop := ∀ p ∈ l, properB p = true
theorem prC.sfx {r r1 : List Str} (h : prC r) (hs : r1 <:+ r) : prC r1 := fun p hp => h p (hs.subset hp)
theorem headP_drop : ∀ r : Str, headP (r.dropWhile insideB)
  | [] => trivial
  | c :: r => by
    rw [List.dropWhile_cons]
    cases h : insideB c with
    | true => exact headP_drop r
    | false => exact h
theorem splitM_pr : ∀ (n : Nat) (s : Str), s.length ≤ n → headP s → prC (splitM s)
  | _, [], _, _ => fun p hp => by cases hp
  | 0, _ :: _, h, _ => by simp at h
  | n + 1, c :: r, h, hh => by
    rw [splitM_cons']
    intro p hp
    rcases List.mem_cons.1 hp with rfl | hp
    · show (!insideB c && (r.takeWhile insideB).all insideB) = true
      rw [List.all_takeWhile, Bool.and_true]
      have : insideB c = false := hh
      rw [this]; rfl
    · have hl : (r.dropWhile insideB).length ≤ r.length := (List.dropWhile_sublist insideB).length_le
      exact splitM_pr n _ (by simp at h; omega) (headP_drop r) p hp
theorem plainM_pr {c t : Str} (h : plainM c = some t) (hc : properB c = true) : properB t = true := by
  unfold plainM at h
  split at h
  · cases h
  iterate 5 (split at h; · injection h with h; subst h; decide)
  split at h
  · injection h with h; subst h; exact hc
  · cases h
theorem wf_leaf {k : Int} {c : Str} {ng : Bool} {rs : List Row} {lo hi : Int} {lz : Bool} (h : fieldsB (.mk k c ng rs lo hi lz []) = true) : (Rx.mk k c ng rs lo hi lz []).wf = true := by
  simp only [Rx.wf, h, Rx.wfL, Bool.and_true]
theorem wf_chr {c : Str} (h : properB c = true) : (chrR c).wf = true := wf_leaf (by simp [fieldsB, bareB, h, Rx.chr, Rx.neg, Rx.rows, Rx.lo, Rx.hi, Rx.lazy])
theorem wf_set {rs : List Row} {ng : Bool} (h : rowsB rs = true) : (setR rs ng).wf = true := wf_leaf (by simp [fieldsB, bareB, h, Rx.chr, Rx.neg, Rx.rows, Rx.lo, Rx.hi, Rx.lazy])
theorem wf_K {k : Int} (h : k = 3 ∨ k = 8 ∨ k = 9 ∨ k = 10 ∨ k = 11) : (rxK k).wf = true := by
  rcases h with rfl | rfl | rfl | rfl | rfl <;> decide
theorem wf_grp {k : Int} {x : Rx} (hk : k = 5 ∨ k = 6) (h : x.wf = true) : (grpR k x).wf = true := by
  rcases hk with rfl | rfl <;> simp [grpR, Rx.wf, Rx.wfL, fieldsB, bareB, h, Rx.chr, Rx.neg, Rx.rows, Rx.lo, Rx.hi, Rx.lazy]
theorem wf_rep {lo hi : Int} {lz : Bool} {x : Rx} (h : x.wf = true) (hk : repB x.kind = true) (hb : 0 ≤ lo ∧ lo ≤ 255 ∧ (hi = -1 ∨ lo ≤ hi ∧ hi ≤ 255)) : (repR lo hi lz x).wf = true := by
  simp [repR, Rx.wf, Rx.wfL, fieldsB, bareB, h, hk, hb, Rx.chr, Rx.neg, Rx.rows, Rx.lo, Rx.hi, Rx.lazy]
/-- d groups outside, n characters ahead, n1 behind. -/
def Ga (d n : Nat) (x : Rx) (n1 : Nat) : Prop := x.wf = true ∧ x.deep + d ≤ 16 ∧ 2 * x.parts + 1 + 3 * n1 ≤ 3 * n
def Gd (d n : Nat) (x : Rx) (n1 : Nat) : Prop := x.wf = true ∧ x.deep + d ≤ 16 ∧ 2 * x.parts + 3 * n1 ≤ 3 * n + 3
theorem Ga.leaf {d n n1 : Nat} {k : Int} {c : Str} {ng : Bool} {rs : List Row} {lo hi : Int} {lz : Bool} (hw : (Rx.mk k c ng rs lo hi lz []).wf = true) (hk : k ≠ 5 ∧ k ≠ 6) (hd : d ≤ 16) (hl : n1 < n) : Ga d n (.mk k c ng rs lo hi lz []) n1 := by
  refine ⟨hw, ?_, ?_⟩
  · simp only [Rx.deep, Rx.deepL]; rw [if_neg (by omega)]; omega
  · simp only [Rx.parts, Rx.partsL]; omega
theorem bounds_le {r r1 : List Str} {lo hi : Int} (h : boundsM r = some (lo, hi, r1)) : 0 ≤ lo ∧ lo ≤ 255 ∧ (hi = -1 ∨ lo ≤ hi ∧ hi ≤ 255) := by
  unfold boundsM at h
  cases h1 : numL 0 0 r with
  | none => simp only [h1] at h; cases h
  | some y =>
    obtain ⟨a, s1⟩ := y
    have e1 := numL_le _ _ _ h1
    simp only [h1] at h
    cases h2 : takeM [125] s1 with
    | some s2 => simp only [h2] at h; injection h with h; injection h with ha h; injection h with hb _; omega
    | none =>
      simp only [h2] at h
      cases h3 : takeM [44] s1 with
      | none => simp only [h3] at h; cases h
      | some s2 =>
        simp only [h3] at h
        cases h4 : takeM [125] s2 with
        | some s3 => simp only [h4] at h; injection h with h; injection h with ha h; injection h with hb _; omega
        | none =>
          simp only [h4] at h
          cases h5 : numL 0 0 s2 with
          | none => simp only [h5] at h; cases h
          | some y =>
            obtain ⟨b, s3⟩ := y
            have e3 := numL_le _ _ _ h5
            simp only [h5] at h
            split at h
            · cases h6 : takeM [125] s3 with
              | none => simp only [h6] at h; cases h
              | some s4 => simp only [h6] at h; injection h with h; injection h with ha h; injection h with hb _; omega
            · cases h
theorem quant_gd {d n n1 : Nat} {x y : Rx} {r r1 : List Str} (h : quantM x r = .ok (y, r1)) (hx : Ga d n x r.length) (hk : repB x.kind = true) (hn : n1 = r1.length) : Ga d n y n1 := by
  subst hn
  have key : ∀ {lo hi : Int} {r2 : List Str}, Except.ok (lazyM x lo hi r2) = (Except.ok (y, r1) : Res) → r2.length < r.length → 0 ≤ lo ∧ lo ≤ 255 ∧ (hi = -1 ∨ lo ≤ hi ∧ hi ≤ 255) → Ga d n y r1.length := by
    intro lo hi r2 h hs hb
    injection h with h
    obtain ⟨⟨lz, h1⟩, h2⟩ := lazy_facts h
    have h3 := sfx_len h2
    subst h1
    obtain ⟨g1, g2, g3⟩ := hx
    refine ⟨wf_rep g1 hk hb, ?_, ?_⟩
    · rw [rep_deep]; exact g2
    · unfold repR; simp only [Rx.parts, Rx.partsL]; omega
  cases r with
  | nil => simp only [quantM] at h; injection h with h; injection h with h1 h2; subst h1 h2; exact hx
  | cons c r =>
    simp only [quantM] at h
    by_cases h1 : c = [42]
    · rw [if_pos h1] at h; exact key h (by simp) (by decide)
    rw [if_neg h1] at h
    by_cases h2 : c = [43]
    · rw [if_pos h2] at h; exact key h (by simp) (by decide)
    rw [if_neg h2] at h
    by_cases h3 : c = [63]
    · rw [if_pos h3] at h; exact key h (by simp) (by decide)
    rw [if_neg h3] at h
    by_cases h4 : c = [123]
    · rw [if_pos h4] at h
      cases hb : boundsM r with
      | none => simp only [hb] at h; cases h
      | some z =>
        obtain ⟨lo, hi, r2⟩ := z
        simp only [hb] at h
        have := sfx_len (bounds_sfx hb)
        exact key h (by simp; omega) (bounds_le hb)
    · rw [if_neg h4] at h
      injection h with h; injection h with h5 h6; subst h5 h6; exact hx
theorem named_rows {c : Str} {rows : List Row} (h : namedS c = some rows) : rowsB rows = true := by
  unfold namedS at h
  split at h
  · rename_i b
    by_cases hb : namedB b = true
    · rw [if_pos hb] at h; injection h with h; subst h
      unfold namedB at hb
      simp only [Bool.or_eq_true, beq_iff_eq] at hb
      rcases hb with (rfl | rfl) | rfl <;> decide
    · rw [if_neg hb] at h; cases h
  · cases h
theorem big_rows {c : Str} {rows : List Row} (h : bigS c = some rows) : rowsB rows = true := by
  unfold bigS at h
  iterate 3 (split at h; · injection h with h; subst h; decide)
  cases h
theorem esc_gd {d : Nat} {r r1 : List Str} {x : Rx} (h : escM r = .ok (x, r1)) (hp : prC r) (hd : d ≤ 16) {n : Nat} (hn : r.length ≤ n) : Ga d n x r1.length ∧ repB x.kind = true := by
  cases r with
  | nil => cases h
  | cons c r =>
    simp only [List.length_cons] at hn
    have hc := hp c (List.mem_cons_self ..)
    simp only [escM] at h
    cases hn2 : namedS c with
    | some rows =>
      simp only [hn2] at h
      injection h with h; injection h with h1 h2; subst h1 h2
      exact ⟨Ga.leaf (wf_set (named_rows hn2)) (by decide) hd (by omega), rfl⟩
    | none =>
      simp only [hn2] at h
      cases hb : bigS c with
      | some rows =>
        simp only [hb] at h
        injection h with h; injection h with h1 h2; subst h1 h2
        exact ⟨Ga.leaf (wf_set (big_rows hb)) (by decide) hd (by omega), rfl⟩
      | none =>
        simp only [hb] at h
        cases hpm : plainM c with
        | none => simp only [hpm] at h; cases h
        | some t =>
          simp only [hpm] at h
          injection h with h; injection h with h1 h2; subst h1 h2
          exact ⟨Ga.leaf (wf_chr (plainM_pr hpm hc)) (by decide) hd (by omega), rfl⟩
theorem class_gd {d : Nat} {r r1 : List Str} {x : Rx} (h : classM r = .ok (x, r1)) (ho : okC r) (hd : d ≤ 16) {n : Nat} (hn : r.length ≤ n) : Ga d n x r1.length ∧ repB x.kind = true := by
  have hsx : ((takeM [94] r).getD r) <:+ r := by
    cases ht : takeM [94] r with
    | none => exact List.suffix_refl _
    | some r2 => exact takeM_sfx ht
  unfold classM at h
  generalize (takeM [94] r).isSome = ng at h
  generalize (takeM [94] r).getD r = r0 at h hsx
  simp only at h
  cases hc : classL (r0.length + 1) [] r0 with
  | none => simp only [hc] at h; cases h
  | some y =>
    obtain ⟨rows, r2⟩ := y
    simp only [hc] at h
    injection h with h; injection h with h1 h2; subst h1 h2
    obtain ⟨g1, g2, g3, g4⟩ := classL_facts _ _ _ hc (sfx_ok hsx ho) rowsOk_nil
    have hl0 := sfx_len hsx
    exact ⟨Ga.leaf (wf_set (unionM_rows _)) (by decide) hd (by omega), rfl⟩
def PatGd (pat : List Str → Nat → Res) (N : Nat) : Prop := ∀ (r : List Str) (d : Nat) (x : Rx) (r1 : List Str), r.length ≤ N → d ≤ 16 → okC r → prC r → pat r d = .ok (x, r1) → Gd d r.length x r1.length
theorem group_gd {pat : List Str → Nat → Res} {N : Nat} (hp : PatGd pat N) {r r1 : List Str} {d : Nat} {x : Rx} (h : groupM pat r d = .ok (x, r1)) (ho : okC r) (hpr : prC r) (hN : r.length ≤ N) {n : Nat} (hn : r.length + 1 ≤ n) : Ga d n x r1.length ∧ repB x.kind = true := by
  unfold groupM at h
  by_cases hd : 16 ≤ d
  · rw [if_pos hd] at h; cases h
  rw [if_neg hd] at h
  cases hk : groupK r with
  | none => simp only [hk] at h; cases h
  | some y =>
    obtain ⟨k, r0⟩ := y
    obtain ⟨k1, k2⟩ := groupK_sfx hk
    simp only [hk] at h
    cases hx : pat r0 (d + 1) with
    | error e => simp only [hx] at h; cases h
    | ok y =>
      obtain ⟨z, r2⟩ := y
      simp only [hx] at h
      have hl0 := sfx_len k1
      obtain ⟨f1, f2, f3⟩ := hp r0 (d + 1) z r2 (by omega) (by omega) (sfx_ok k1 ho) (hpr.sfx k1) hx
      cases ht : takeM [41] r2 with
      | none => simp only [ht] at h; cases h
      | some r3 =>
        simp only [ht] at h
        injection h with h; injection h with h1 h2; subst h1 h2
        have e := takeM_some ht
        rw [e, List.length_cons] at f3
        refine ⟨⟨wf_grp k2 f1, by rw [grp_deep k2]; omega, by unfold grpR; simp only [Rx.parts, Rx.partsL]; omega⟩, ?_⟩
        rcases k2 with rfl | rfl <;> rfl
theorem atom_gd {pat : List Str → Nat → Res} {N : Nat} (hp : PatGd pat N) {r r1 : List Str} {d : Nat} {x : Rx} (h : atomM pat r d = .ok (x, r1)) (ho : okC r) (hpr : prC r) (hN : r.length ≤ N + 1) (hd : d ≤ 16) : Ga d r.length x r1.length ∧ repB x.kind = true := by
  cases r with
  | nil => cases h
  | cons c r =>
    simp only [List.length_cons] at hN ⊢
    have hpt : prC r := fun p hp => hpr p (List.mem_cons_of_mem _ hp)
    simp only [atomM] at h
    by_cases h1 : c = [46]
    · rw [if_pos h1] at h; injection h with h; injection h with ha hb; subst ha hb; exact ⟨Ga.leaf (wf_K (.inl rfl)) (by decide) hd (by omega), rfl⟩
    rw [if_neg h1] at h
    by_cases h2 : c = [40]
    · rw [if_pos h2] at h; exact group_gd hp h ho.tail hpt (by omega) (by omega)
    rw [if_neg h2] at h
    by_cases h3 : c = [91]
    · rw [if_pos h3] at h; exact class_gd h ho.tail hd (by omega)
    rw [if_neg h3] at h
    by_cases h4 : c = [92]
    · rw [if_pos h4] at h; exact esc_gd h hpt hd (by omega)
    rw [if_neg h4] at h
    by_cases h5 : noAtom c = true
    · rw [if_pos h5] at h; cases h
    · rw [if_neg h5] at h; injection h with h; injection h with ha hb; subst ha hb; exact ⟨Ga.leaf (wf_chr (hpr c (List.mem_cons_self ..))) (by decide) hd (by omega), rfl⟩
theorem edge_gd {r r1 : List Str} {x : Rx} {d : Nat} (hd : d ≤ 16) (h : edgeM r = some (x, r1)) : Ga d r.length x r1.length := by
  cases r with
  | nil => cases h
  | cons c r =>
    simp only [edgeM] at h
    by_cases h1 : c = [94]
    · rw [if_pos h1] at h; injection h with h; injection h with ha hb; subst ha hb; exact Ga.leaf (wf_K (by decide)) (by decide) hd (by simp)
    rw [if_neg h1] at h
    by_cases h2 : c = [36]
    · rw [if_pos h2] at h; injection h with h; injection h with ha hb; subst ha hb; exact Ga.leaf (wf_K (by decide)) (by decide) hd (by simp)
    rw [if_neg h2] at h
    by_cases h3 : c = [92]
    · rw [if_pos h3] at h
      cases h4 : takeM [98] r with
      | some r2 =>
        have := sfx_len (takeM_sfx h4)
        simp only [h4] at h; injection h with h; injection h with ha hb; subst ha hb; exact Ga.leaf (wf_K (by decide)) (by decide) hd (by simp; omega)
      | none =>
        simp only [h4] at h
        cases h5 : takeM [66] r with
        | some r2 =>
          have := sfx_len (takeM_sfx h5)
          simp only [h5] at h; injection h with h; injection h with ha hb; subst ha hb; exact Ga.leaf (wf_K (by decide)) (by decide) hd (by simp; omega)
        | none => simp only [h5] at h; cases h
    · rw [if_neg h3] at h; cases h
theorem term_gd {pat : List Str → Nat → Res} {N : Nat} (hp : PatGd pat N) {r r1 : List Str} {d : Nat} {x : Rx} (h : termM pat r d = .ok (x, r1)) (ho : okC r) (hpr : prC r) (hN : r.length ≤ N + 1) (hd : d ≤ 16) : Ga d r.length x r1.length := by
  unfold termM at h
  cases he : edgeM r with
  | some y => simp only [he] at h; injection h with h; subst h; exact edge_gd hd he
  | none =>
    simp only [he] at h
    cases ha : atomM pat r d with
    | error e => simp only [ha] at h; cases h
    | ok y =>
      obtain ⟨w, r2⟩ := y
      simp only [ha] at h
      obtain ⟨g1, g2⟩ := atom_gd hp ha ho hpr hN hd
      exact quant_gd h g1 g2 rfl
theorem wfL_app : ∀ (a b : List Rx), Rx.wfL (a ++ b) = (Rx.wfL a && Rx.wfL b)
  | [], b => by simp [Rx.wfL]
  | x :: a, b => by simp only [List.cons_append, Rx.wfL, wfL_app a b, Bool.and_assoc]
theorem seqR_gd {ts : List Rx} (h : InvT ts) (hw : Rx.wfL ts = true) : (seqR ts).wf = true ∧ 2 * (seqR ts).parts ≤ 2 * Rx.partsL ts + ts.length + 2 := by
  have hf : flatL 0 ts = ts := flatL_id fun y hy => (h y hy).1
  rcases ts with _ | ⟨x, _ | ⟨y, l⟩⟩
  · exact ⟨rfl, by decide⟩
  · have e : seqR [x] = x := by unfold seqR; rw [hf]
    rw [e]
    simp only [Rx.wfL, Bool.and_true] at hw
    exact ⟨hw, by simp only [Rx.partsL]; omega⟩
  · have e : seqR (x :: y :: l) = kind0 (x :: y :: l) := by unfold seqR; rw [hf]
    rw [e]
    refine ⟨?_, by unfold kind0; simp only [Rx.parts, Rx.partsL, List.length_cons]; omega⟩
    unfold kind0
    simp only [Rx.wf, hw, Bool.and_true]
    have ha : ((x :: y :: l).all fun x => decide (x.kind ≠ 0 ∧ x.kind ≠ 1)) = true := List.all_eq_true.2 fun z hz => decide_eq_true (h z hz)
    simp [fieldsB, bareB, Rx.chr, Rx.neg, Rx.rows, Rx.lo, Rx.hi, Rx.lazy]
    simpa using ha
theorem altR_gd {al : List Rx} (h : InvA al) (hw : Rx.wfL al = true) (hne : al ≠ []) : (altR al).wf = true ∧ (altR al).parts ≤ Rx.partsL al + (if al.length = 1 then 0 else 1) := by
  have hf : flatL 1 al = al := flatL_id h
  rcases al with _ | ⟨x, _ | ⟨y, l⟩⟩
  · exact absurd rfl hne
  · have e : altR [x] = x := altR_one' (h x (List.mem_cons_self ..))
    rw [e]
    simp only [Rx.wfL, Bool.and_true] at hw
    exact ⟨hw, by simp only [Rx.partsL]; omega⟩
  · have e : altR (x :: y :: l) = kind1 (x :: y :: l) := by unfold altR; rw [hf]
    rw [e]
    refine ⟨?_, by rw [if_neg (by simp)]; unfold kind1; simp only [Rx.parts, Rx.partsL]; omega⟩
    unfold kind1
    simp only [Rx.wf, hw, Bool.and_true]
    have ha : ((x :: y :: l).all fun x => decide (x.kind ≠ 1)) = true := List.all_eq_true.2 fun z hz => decide_eq_true (h z hz)
    simp [fieldsB, bareB, Rx.chr, Rx.neg, Rx.rows, Rx.lo, Rx.hi, Rx.lazy]
    simpa using ha
theorem patL_gd {f : List Str → Res} {d R : Nat} : ∀ (k : Nat) (alts terms : List Rx) (r : List Str) {x : Rx} {r1 : List Str}, patL f k alts terms r = .ok (x, r1) → InvA alts → InvT terms → Rx.wfL alts = true → Rx.wfL terms = true → Rx.deepL alts + d ≤ 16 → Rx.deepL terms + d ≤ 16 →
    2 * Rx.partsL alts + 2 * Rx.partsL terms + terms.length + alts.length + 3 * r.length ≤ 3 * R →
    (∀ r' y r2, r' <:+ r → f r' = .ok (y, r2) → r2 <:+ r' ∧ (y.kind ≠ 0 ∧ y.kind ≠ 1) ∧ Ga d r'.length y r2.length) → Gd d R x r1.length
  | 0, _, _, _, _, _, h, _, _, _, _, _, _, _, _ => by cases h
  | k + 1, alts, terms, r, x, r1, h, iA, iT, wA, wT, dA, dT, hm, ht => by
    obtain ⟨q1, q2⟩ := seqR_gd iT wT
    have iA2 : InvA (alts ++ [seqR terms]) := iA.app fun y hy => by rw [List.mem_singleton] at hy; rw [hy]; exact (seqR_kind iT).1
    have wA2 : Rx.wfL (alts ++ [seqR terms]) = true := by rw [wfL_app, wA]; simp only [Rx.wfL, q1]; rfl
    have fin : Gd d R (altR (alts ++ [seqR terms])) r.length := by
      obtain ⟨p1, p2⟩ := altR_gd iA2 wA2 (by simp)
      refine ⟨p1, by rw [end_deep]; omega, ?_⟩
      rw [partsL_app] at p2
      simp only [Rx.partsL, List.length_append, List.length_cons, List.length_nil] at p2
      cases alts with
      | nil => rw [if_pos (by simp)] at p2; simp only [Rx.partsL] at p2 hm; simp only [List.length_nil] at hm; omega
      | cons a l => rw [if_neg (by simp only [List.length_cons]; omega)] at p2; simp only [List.length_cons] at hm; omega
    cases r with
    | nil =>
      simp only [patL] at h
      injection h with h; injection h with h1 h2; subst h1 h2; exact fin
    | cons c r =>
      simp only [patL] at h
      by_cases h1 : c = [41]
      · rw [if_pos h1] at h; injection h with h; injection h with h1 h2; subst h1 h2; exact fin
      rw [if_neg h1] at h
      by_cases h2 : c = [124]
      · rw [if_pos h2] at h
        refine patL_gd k _ _ r h iA2 (fun y hy => by cases hy) wA2 rfl (by rw [deepL_app]; simp only [Rx.deepL, seqR_deep]; omega) (by simp only [Rx.deepL]; omega) ?_ (fun r' y r2 q => ht r' y r2 (sfx_cons q))
        rw [partsL_app]
        simp only [Rx.partsL, List.length_append, List.length_cons, List.length_nil] at hm ⊢
        omega
      rw [if_neg h2] at h
      cases hx : f (c :: r) with
      | error e => simp only [hx] at h; cases h
      | ok y =>
        obtain ⟨w, r2⟩ := y
        simp only [hx] at h
        obtain ⟨s1, s2, s3, s4, s5⟩ := ht _ _ _ (List.suffix_refl _) hx
        refine patL_gd k _ _ r2 h iA (iT.app fun y hy => by rw [List.mem_singleton] at hy; rw [hy]; exact s2) wA (by rw [wfL_app, wT]; simp only [Rx.wfL, s3]; rfl) dA (by rw [deepL_app]; simp only [Rx.deepL]; omega) ?_ (fun r' y r3 q => ht r' y r3 (q.trans s1))
        rw [partsL_app]
        simp only [Rx.partsL, List.length_append, List.length_cons, List.length_nil] at hm s5 ⊢
        omega
theorem pat_gd : ∀ (n : Nat), n ≤ 200000 → PatGd (patF n) n
  | 0, _ => fun r d x r1 _ _ _ _ h => by cases h
  | n + 1, hn => fun r d x r1 hl hd ho hp h => by
    have ih := pat_gd n (by omega)
    have h' : patL (fun r => termM (patF n) r d) (r.length + 1) [] [] r = .ok (x, r1) := h
    exact patL_gd (f := fun r => termM (patF n) r d) _ [] [] r h' (fun y hy => by cases hy) (fun y hy => by cases hy) rfl rfl (by simp only [Rx.deepL]; omega) (by simp only [Rx.deepL]; omega) (by simp [Rx.partsL])
      (fun r' y r2 hs hx => by
        have hl' := sfx_len hs
        obtain ⟨t1, _⟩ := term_sfx hx (sfx_ok hs ho) (by omega)
        exact ⟨t1, term_kind hx, term_gd ih hx (sfx_ok hs ho) (hp.sfx hs) (by omega) hd⟩)
theorem split_count : ∀ (n : Nat) (s : Str), s.length ≤ n → (splitM s).count [40] ≤ s.count 40
  | _, [], _ => by simp [splitM, splitF]
  | 0, _ :: _, h => by simp at h
  | n + 1, c :: r, h => by
    have hl : (r.dropWhile insideB).length ≤ r.length := (List.dropWhile_sublist insideB).length_le
    have ih := split_count n (r.dropWhile insideB) (by simp at h; omega)
    have hs : (r.dropWhile insideB).count 40 ≤ r.count 40 := (List.dropWhile_sublist insideB).count_le 40
    rw [splitM_cons', List.count_cons, List.count_cons]
    by_cases hc : c = 40
    · subst hc; simp only [beq_self_eq_true, if_true]; split <;> omega
    · have : ¬ ((c :: r.takeWhile insideB) == [40]) = true := by
        intro e; rw [beq_iff_eq] at e; injection e with e _; exact hc e
      rw [if_neg this]; omega
/-- ReadMay's law on the model. -/
theorem read_may {s : Str} {x : Rx} (h : readM s = .ok x) : mayB x = true ∧ x.groups ≤ s.count 40 ∧ x.parts ≤ 2 * s.length + 1 := by
  obtain ⟨a1, a2, a3⟩ := readM_ok.1 h
  have hl := splitM_len s
  have ho : okC (splitM s) := splitM_ok (by omega)
  obtain ⟨f1, f2, f3, f4⟩ := pat_facts _ _ _ _ _ (by omega) a3 ho
  obtain ⟨g1, g2, g3⟩ := pat_gd _ (by omega) (splitM s) 0 x [] (by omega) (by omega) ho (splitM_pr _ s (Nat.le_refl _) a2) a3
  have hc := split_count _ s (Nat.le_refl _)
  simp only [List.length_nil, List.count_nil] at f2 f3 g3
  refine ⟨?_, by omega, by omega⟩
  simp only [mayB, okB, Bool.and_eq_true, decide_eq_true_eq]
  exact ⟨⟨g1, by omega⟩, by omega⟩
end Go.Proofs.Ytemophfieihgaaa
