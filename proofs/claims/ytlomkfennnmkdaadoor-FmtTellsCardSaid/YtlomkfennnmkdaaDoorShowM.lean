/- What a format is told as, told plainly; it is read again. -/
import Derived.Test.YtlomkfennnmkdaaDoorFmtM
import Derived.Test.YtlomkfennnmkdaaDoorFmD
import Derived.Test.YtlomkfennnmkdaaDoorDec
namespace Go.Proofs.YtlomkfennnmkdaaDoor
/-- 'quoted': a text with a backslash ahead of each of these bytes. -/
def quot (these : Str) : Str → Str
  | [] => []
  | c :: r => (if these.contains c = true then [92, c] else [c]) ++ quot these r
theorem quot_len (these : Str) : ∀ l : Str, (quot these l).length ≤ 2 * l.length
  | [] => by simp [quot]
  | c :: r => by
    have := quot_len these r
    simp only [quot, List.length_append, List.length_cons]; split <;> simp <;> omega
/-- One part, told. -/
def showP (f : Fm) : Str :=
  if f.kind = 0 then quot four f.thn
  else if f.kind = 1 then 36 :: 123 :: (dec f.n ++ [125])
  else if f.kind = 2 then 36 :: 123 :: (dec f.n ++ 58 :: 47 :: (nameOf f.cse ++ [125]))
  else if f.kind = 3 then 36 :: 123 :: (dec f.n ++ 58 :: 43 :: (quot five f.thn ++ [125]))
  else if f.kind = 4 then 36 :: 123 :: (dec f.n ++ 58 :: 45 :: (quot five f.els ++ [125]))
  else 36 :: 123 :: (dec f.n ++ 58 :: 63 :: (quot five f.thn ++ 58 :: (quot five f.els ++ [125])))
def showF (fs : List Fm) : Str := fs.flatMap showP
/-! ### numbers -/
theorem numL_digit {v : Nat} (hv : v < 10) (r : Str) {k m : Nat} (hk : k < 4) : numL (UInt8.ofNat (48 + v) :: r) k m = numL r (k + 1) (10 * m + v) := by
  have h : (UInt8.ofNat (48 + v)).toNat = 48 + v := by rw [UInt8.toNat_ofNat']; omega
  conv => lhs; unfold numL
  rw [h, if_pos (by omega), if_neg (by omega)]; congr 2; omega
theorem numL_dec (u : Nat) : ∀ (r : Str) (k m : Nat), k + Lib.nDigits u ≤ 4 → numL (Lib.decDigits u ++ r) k m = numL r (k + Lib.nDigits u) (m * 10 ^ Lib.nDigits u + u) := by
  induction u using Nat.strongRecOn with
  | _ u ih =>
    intro r k m hk
    by_cases a : u < 10
    · rw [Lib.decDigits, dif_pos a, Lib.nDigits, dif_pos a]
      rw [Lib.nDigits, dif_pos a] at hk
      rw [List.singleton_append, numL_digit a r (by omega)]; congr 1; omega
    · rw [Lib.decDigits, dif_neg a, Lib.nDigits, dif_neg a]
      rw [Lib.nDigits, dif_neg a] at hk
      rw [List.append_assoc, ih (u / 10) (by omega) _ k m (by omega), List.singleton_append, numL_digit (by omega) r (by omega)]
      congr 1
      rw [Nat.pow_succ, ← Nat.mul_assoc, Nat.mul_add, Nat.add_assoc, show 10 * (u / 10) + u % 10 = u by omega, Nat.mul_comm]
theorem numR_dec {n : Int} (h0 : 0 ≤ n) (h1 : n ≤ 9999) {d : UInt8} (hd : ¬ (48 ≤ d.toNat ∧ d.toNat ≤ 57)) (r : Str) : numR (dec n ++ d :: r) = some (n.toNat, d :: r) := by
  obtain ⟨h2, h3⟩ := nDigits_le (u := n.toNat) (by omega)
  unfold numR dec
  rw [numL_dec _ _ _ _ (by omega)]
  unfold numL
  rw [if_neg hd, if_pos (by omega)]; simp
/-! ### texts within braces -/
theorem five_mem {c : UInt8} : five.contains c = true ↔ c.toNat = 36 ∨ c.toNat = 125 ∨ c.toNat = 92 ∨ c.toNat = 47 ∨ c.toNat = 58 := by
  simp [five, ← UInt8.toNat_inj]
theorem four_mem {c : UInt8} : four.contains c = true ↔ c.toNat = 36 ∨ c.toNat = 125 ∨ c.toNat = 92 ∨ c.toNat = 47 := by
  simp [four, ← UInt8.toNat_inj]
theorem until_quot {one : Int} (ho : one = 125 ∨ one = 58) (d : UInt8) (hd : d.toNat = one.toNat) : ∀ (t acc s : Str), untilL one (quot five t ++ d :: s) acc = some (acc ++ t, d :: s)
  | [], acc, s => by
    simp only [quot, List.nil_append]
    cases s with
    | nil => simp only [untilL]; rw [if_pos hd]; simp
    | cons x s => simp only [untilL]; rw [if_pos hd]; simp
  | c :: r, acc, s => by
    have ih := until_quot ho d hd r (acc ++ [c]) s
    by_cases hc : five.contains c = true
    · simp only [quot]; rw [if_pos hc]
      simp only [List.cons_append, List.nil_append, untilL]
      rw [if_neg (by rcases ho with rfl | rfl <;> simp), if_pos ⟨rfl, hc⟩, ih]; simp
    · have hn := fun h => hc (five_mem.2 h)
      simp only [quot]; rw [if_neg hc]
      simp only [List.cons_append, List.nil_append]
      obtain ⟨x, y, hxy⟩ : ∃ x y, quot five r ++ d :: s = x :: y := by
        cases h : quot five r ++ d :: s with
        | nil => simp at h
        | cons x y => exact ⟨x, y, rfl⟩
      rw [hxy] at ih ⊢
      simp only [untilL]
      rw [if_neg (by intro h; apply hn; rcases ho with rfl | rfl <;> simp at h <;> omega), if_neg (by intro h; apply hn; omega), ih]; simp
theorem way_name {w : Int} (h : nameOf w ≠ []) : wayOf (nameOf w) = w ∧ w ≠ 0 ∧ ∀ c ∈ nameOf w, ne125 c = true := by
  have hw : w = 1 ∨ w = 2 ∨ w = 3 ∨ w = 4 ∨ w = 5 := by
    unfold nameOf at h
    by_cases a : w = 1
    · exact .inl a
    by_cases b : w = 2
    · exact .inr (.inl b)
    by_cases c : w = 3
    · exact .inr (.inr (.inl c))
    by_cases d : w = 4
    · exact .inr (.inr (.inr (.inl d)))
    by_cases e : w = 5
    · exact .inr (.inr (.inr (.inr e)))
    rw [if_neg a, if_neg b, if_neg c, if_neg d, if_neg e] at h; exact absurd rfl h
  rcases hw with rfl | rfl | rfl | rfl | rfl <;> decide +kernel
theorem span_all {l : Str} (h : ∀ c ∈ l, ne125 c = true) (r : Str) : (l ++ 125 :: r).takeWhile ne125 = l ∧ (l ++ 125 :: r).dropWhile ne125 = 125 :: r := by
  induction l with
  | nil => exact ⟨rfl, rfl⟩
  | cons c l ih =>
    have hc := h c (List.mem_cons_self ..)
    obtain ⟨h1, h2⟩ := ih (fun d hd => h d (List.mem_cons_of_mem _ hd))
    rw [List.cons_append, List.takeWhile_cons_of_pos hc, List.dropWhile_cons_of_pos hc, h1, h2]; exact ⟨rfl, rfl⟩
/-- A part but a text, told, is read as that. -/
theorem part_show (f : Fm) (hm : mayF f = true) (hk : f.kind ≠ 0) (s : Str) : ∃ r, showP f ++ s = 36 :: r ∧ partR r = some (f, s) := by
  obtain ⟨kind, n, cse, thn, els⟩ := f
  simp only at hk
  unfold mayF at hm
  rw [Bool.and_eq_true] at hm
  obtain ⟨hn, hm⟩ := hm
  obtain ⟨h0, h1⟩ : 0 ≤ n ∧ n ≤ 9999 := by simpa using hn
  have hnn : ((n.toNat : Nat) : Int) = n := by omega
  have h123 : ∀ r : Str, numR (123 :: r) = none := fun r => by unfold numR numL; rw [if_neg (by decide), if_neg (by omega)]
  have hpart : ∀ (d : UInt8) (r : Str), ¬ (48 ≤ d.toNat ∧ d.toNat ≤ 57) → partR (123 :: (dec n ++ d :: r)) = partC n.toNat (d :: r) := fun d r hd => by
    unfold partR; rw [h123]; simp only [partB]; rw [if_pos (by decide), numR_dec h0 h1 hd]
  simp only [if_neg hk] at hm
  by_cases k1 : kind = 1
  · subst k1
    simp [blankB] at hm
    obtain ⟨⟨rfl, rfl⟩, rfl⟩ := hm
    refine ⟨123 :: (dec n ++ 125 :: s), by simp [showP], ?_⟩
    rw [hpart _ _ (by decide)]; simp [partC, hnn]
  by_cases k2 : kind = 2
  · subst k2
    simp [blankB] at hm
    obtain ⟨⟨rfl, rfl⟩, hc⟩ := hm
    obtain ⟨w1, w2, w3⟩ := way_name hc
    obtain ⟨s1, s2⟩ := span_all w3 s
    refine ⟨123 :: (dec n ++ 58 :: 47 :: (nameOf cse ++ 125 :: s)), by simp [showP], ?_⟩
    rw [hpart _ _ (by decide)]
    simp only [partC]; rw [if_neg (by decide), if_pos (by decide)]
    simp only [bracedR]; rw [if_pos (by decide), s1, s2, w1]; simp [w2, hnn]
  by_cases k3 : kind = 3
  · subst k3
    simp [blankB] at hm
    obtain ⟨rfl, rfl⟩ := hm
    refine ⟨123 :: (dec n ++ 58 :: 43 :: (quot five thn ++ 125 :: s)), by simp [showP], ?_⟩
    rw [hpart _ _ (by decide)]
    simp only [partC]; rw [if_neg (by decide), if_pos (by decide)]
    simp only [bracedR]; rw [if_neg (by decide), if_pos (by decide), until_quot (.inl rfl) 125 rfl]; simp [hnn]
  by_cases k4 : kind = 4
  · subst k4
    simp [blankB] at hm
    obtain ⟨rfl, rfl⟩ := hm
    refine ⟨123 :: (dec n ++ 58 :: 45 :: (quot five els ++ 125 :: s)), by simp [showP], ?_⟩
    rw [hpart _ _ (by decide)]
    simp only [partC]; rw [if_neg (by decide), if_pos (by decide)]
    simp only [bracedR]; rw [if_neg (by decide), if_neg (by decide), if_neg (by decide), if_pos (by decide), until_quot (.inl rfl) 125 rfl]; simp [hnn]
  by_cases k5 : kind = 5
  · subst k5
    simp [blankB] at hm
    subst hm
    refine ⟨123 :: (dec n ++ 58 :: 63 :: (quot five thn ++ 58 :: (quot five els ++ 125 :: s))), by simp [showP], ?_⟩
    rw [hpart _ _ (by decide)]
    simp only [partC]; rw [if_neg (by decide), if_pos (by decide)]
    simp only [bracedR]; rw [if_neg (by decide), if_neg (by decide), if_pos (by decide), until_quot (.inr rfl) 58 rfl]
    simp only [List.nil_append]; rw [until_quot (.inl rfl) 125 rfl]; simp [hnn]
  · simp only [if_neg k1, if_neg k2, if_neg k3, if_neg k4, if_neg k5] at hm; cases hm
/-- A text, told, is read as that. -/
theorem text_show (s : Str) (fs : List Fm) : ∀ (t tx : Str), readX (quot four t ++ s) tx fs = readX s (tx ++ t) fs
  | [], tx => by simp [quot]
  | c :: r, tx => by
    have ih := text_show s fs r (tx ++ [c])
    by_cases hc : four.contains c = true
    · simp only [quot]; rw [if_pos hc]
      simp only [List.cons_append, List.nil_append]
      rw [readX_cons, if_neg (by decide), if_neg (by decide), if_pos ⟨by decide, hc⟩]
      simp only [List.drop_one, List.tail_cons, List.take_one, List.head?_cons, Option.toList_some]
      rw [ih]; simp
    · have hn := fun h => hc (four_mem.2 h)
      simp only [quot]; rw [if_neg hc]
      simp only [List.cons_append, List.nil_append]
      rw [readX_cons, if_neg (fun h => hn (by omega)), if_neg (fun h => hn (by omega)), if_neg (fun h => hn (by omega)), ih]; simp
theorem read_show (b : Str) : ∀ (fs acc : List Fm) (pt : Bool) (tx : Str), mayL pt fs = true → (pt = false → tx = []) → readX (showF fs ++ 47 :: b) tx acc = some (flushF tx acc ++ fs, 47 :: b)
  | [], acc, pt, tx, _, _ => by simp [showF, readX_cons]
  | f :: r, acc, pt, tx, hm, ht => by
    simp only [mayL, Bool.and_eq_true] at hm
    obtain ⟨⟨h1, h2⟩, h3⟩ := hm
    have hs : showF (f :: r) ++ 47 :: b = showP f ++ (showF r ++ 47 :: b) := by simp [showF]
    rw [hs]
    by_cases hk : f.kind = 0
    · have hpt : pt = false := by simpa [hk] using h2
      have htx := ht hpt
      subst htx
      obtain ⟨kind, n, cse, thn, els⟩ := f
      simp only at hk; subst hk
      unfold mayF at h1
      rw [Bool.and_eq_true] at h1
      have h4 := h1.2
      simp [blankB] at h4
      obtain ⟨⟨⟨rfl, rfl⟩, rfl⟩, hthn⟩ := h4
      have hp : showP ⟨0, 0, 0, thn, []⟩ = quot four thn := by simp [showP]
      rw [hp, text_show, List.nil_append, read_show b r acc true thn (by simpa using h3) (by simp)]
      simp [flushF, hthn]
    · obtain ⟨r', e1, e2⟩ := part_show f h1 hk (showF r ++ 47 :: b)
      rw [e1, readX_cons, if_neg (by decide), if_pos (by decide), e2]
      simp only []
      rw [read_show b r _ false [] (by simpa [hk] using h3) (fun _ => rfl)]
      simp [flushF]
/-! ### what is read may be -/
def openL (fs : List Fm) : Prop := mayFs fs = true ∧ ∀ f, fs.getLast? = some f → f.kind ≠ 0
theorem mayL_snoc : ∀ (fs : List Fm) (pt : Bool) (f : Fm), mayL pt fs = true → mayF f = true → (f.kind = 0 → (match fs.getLast? with | none => pt = false | some g => g.kind ≠ 0)) → mayL pt (fs ++ [f]) = true
  | [], pt, f, _, hf, h => by
    simp only [List.nil_append, mayL, hf, Bool.true_and, Bool.and_true]
    by_cases hk : f.kind = 0
    · have := h hk; simp at this; simp [this]
    · simp [hk]
  | g :: r, pt, f, hm, hf, h => by
    simp only [mayL, Bool.and_eq_true] at hm
    simp only [List.cons_append, mayL, Bool.and_eq_true]
    refine ⟨hm.1, mayL_snoc r _ f hm.2 hf (fun hk => ?_)⟩
    have h1 := h hk
    cases r with
    | nil => simpa using h1
    | cons x r =>
      rw [List.getLast?_cons_cons] at h1
      cases hl : (x :: r).getLast? with
      | none => simp at hl
      | some y => rw [hl] at h1; exact h1
theorem openL_nil : openL [] := ⟨rfl, by simp⟩
theorem openL_flush {tx : Str} {fs : List Fm} (h : openL fs) : mayFs (flushF tx fs) = true := by
  unfold flushF
  split
  · exact h.1
  · rename_i ht
    refine mayL_snoc fs false _ h.1 (by simp [mayF, blankB, ht]) (fun _ => ?_)
    cases hl : fs.getLast? with
    | none => rfl
    | some g => exact h.2 g hl
theorem openL_part {tx : Str} {fs : List Fm} {f : Fm} (h : openL fs) (hf : mayF f = true) (hk : f.kind ≠ 0) : openL (flushF tx fs ++ [f]) :=
  ⟨mayL_snoc _ false f (openL_flush h) hf (fun e => absurd e hk), fun g hg => by
    rw [List.getLast?_concat] at hg
    injection hg with hg; subst hg; exact hk⟩
theorem numL_le : ∀ (r : Str) (k m : Nat) {n : Nat} {s : Str}, numL r k m = some (n, s) → m < 10 ^ k → k ≤ 4 → n ≤ 9999
  | [], k, m, n, s, h, hm, hk => by
    have h4 := Nat.lt_of_lt_of_le hm (Nat.pow_le_pow_right (show 10 > 0 by omega) hk)
    simp only [numL] at h
    split at h
    · injection h with h; injection h with h _; omega
    · cases h
  | c :: r, k, m, n, s, h, hm, hk => by
    have h4 := Nat.lt_of_lt_of_le hm (Nat.pow_le_pow_right (show 10 > 0 by omega) hk)
    simp only [numL] at h
    split at h
    · split at h
      · cases h
      · exact numL_le r (k + 1) _ h (by rw [Nat.pow_succ]; omega) (by omega)
    · split at h
      · injection h with h; injection h with h _; omega
      · cases h
theorem numR_le {r : Str} {n : Nat} {s : Str} (h : numR r = some (n, s)) : n ≤ 9999 := numL_le r 0 0 h (by omega) (by omega)
theorem wayOf_name (s : Str) (h : wayOf s ≠ 0) : nameOf (wayOf s) ≠ [] := by
  unfold wayOf at h ⊢
  (repeat' split) <;> first | decide +kernel | (exfalso; simp_all)
theorem bracedR_may {r : Str} {n : Nat} (hn : n ≤ 9999) {f : Fm} {s : Str} (h : bracedR r n = some (f, s)) : mayF f = true ∧ f.kind ≠ 0 := by
  have hn' : ((n : Nat) : Int) ≤ 9999 := by omega
  cases r with
  | nil => cases h
  | cons c r =>
    simp only [bracedR] at h
    split at h
    · split at h
      · cases h
      · split at h
        · cases h
        · rename_i hw
          have h4 := wayOf_name _ hw
          injection h with h; injection h with h _; subst h
          refine ⟨?_, by simp⟩
          simp [mayF, blankB, h4]; omega
    · split at h
      · split at h
        · injection h with h; injection h with h _; subst h
          exact ⟨by simp [mayF, blankB]; omega, by simp⟩
        · cases h
      · split at h
        · split at h
          · split at h
            · injection h with h; injection h with h _; subst h
              exact ⟨by simp [mayF, blankB]; omega, by simp⟩
            · cases h
          · cases h
        · split at h
          · split at h
            · injection h with h; injection h with h _; subst h
              exact ⟨by simp [mayF, blankB]; omega, by simp⟩
            · cases h
          · split at h
            · injection h with h; injection h with h _; subst h
              exact ⟨by simp [mayF, blankB]; omega, by simp⟩
            · cases h
theorem partR_may {r : Str} {f : Fm} {s : Str} (h : partR r = some (f, s)) : mayF f = true ∧ f.kind ≠ 0 := by
  unfold partR at h
  split at h
  · rename_i p heq
    obtain ⟨m, s'⟩ := p
    have := numR_le heq
    injection h with h; injection h with h _; subst h
    exact ⟨by simp [mayF, blankB]; omega, by simp⟩
  · cases r with
    | nil => cases h
    | cons c r =>
      simp only [partB] at h
      split at h
      · split at h
        · cases h
        · rename_i p heq
          obtain ⟨m, s'⟩ := p
          have h1 := numR_le heq
          cases s' with
          | nil => cases h
          | cons d r3 =>
            simp only [partC] at h
            split at h
            · injection h with h; injection h with h _; subst h
              exact ⟨by simp [mayF, blankB]; omega, by simp⟩
            · split at h
              · exact bracedR_may h1 h
              · cases h
      · cases h
theorem readN_may : ∀ (k : Nat) (r tx : Str) (fs gs : List Fm) (s : Str), readN k r tx fs = some (gs, s) → openL fs → mayFs gs = true ∧ ∃ b, s = 47 :: b
  | 0, _, _, _, _, _, h, _ => by simp [readN] at h
  | _ + 1, [], _, _, _, _, h, _ => by simp [readN] at h
  | k + 1, c :: r, tx, fs, gs, s, h, ho => by
    simp only [readN] at h
    split at h
    · rename_i hc
      injection h with h; injection h with h1 h2
      subst h1 h2
      exact ⟨openL_flush ho, r, by rw [show c = 47 from UInt8.toNat_inj.1 hc]⟩
    · split at h
      · split at h
        · rename_i p heq
          obtain ⟨h1, h2⟩ := partR_may (f := p.1) (s := p.2) heq
          exact readN_may k _ _ _ _ _ h (openL_part ho h1 h2)
        · exact readN_may k _ _ _ _ _ h ho
      · split at h
        · exact readN_may k _ _ _ _ _ h ho
        · exact readN_may k _ _ _ _ _ h ho
theorem readX_may {r : Str} {gs : List Fm} {s : Str} (h : readX r [] [] = some (gs, s)) : mayFs gs = true ∧ ∃ b, s = 47 :: b := readN_may _ _ _ _ _ _ h openL_nil
end Go.Proofs.YtlomkfennnmkdaaDoor
