/- The plain functions that the package fmts computes, told on what is left of a text. -/
import Derived.Test.YtlomkfennnmkdaaDoorCaseM
namespace Go.Proofs.YtlomkfennnmkdaaDoor
def dig (c : UInt8) : Bool := decide (48 ≤ c.toNat ∧ c.toNat ≤ 57)
/-- 'number': 1 to 4 digits with no digit behind them. -/
def numL : Str → Nat → Nat → Option (Nat × Str)
  | [], k, n => if 0 < k then some (n, []) else none
  | c :: r, k, n => if 48 ≤ c.toNat ∧ c.toNat ≤ 57 then (if k = 4 then none else numL r (k + 1) (10 * n + (c.toNat - 48))) else if 0 < k then some (n, c :: r) else none
def numR (r : Str) : Option (Nat × Str) := numL r 0 0
/-- 'stands': is the first byte one of these? -/
def stands (r these : Str) : Bool := match r with | [] => false | c :: _ => these.contains c
/-- 'until': a text up to the first byte that is one, and that no backslash stands for. -/
def four : Str := [36, 125, 92, 47]
def five : Str := [36, 125, 92, 47, 58]
def untilL (one : Int) : Str → Str → Option (Str × Str)
  | [], _ => none
  | [c], t => if c.toNat = one.toNat then some (t, [c]) else none
  | c :: d :: r, t => if c.toNat = one.toNat then some (t, c :: d :: r) else if c.toNat = 92 ∧ five.contains d = true then untilL one r (t ++ [d]) else untilL one (d :: r) (t ++ [c])
structure Fm where
  kind : Int
  n : Int
  cse : Int
  thn : Str
  els : Str
deriving DecidableEq
def ne125 (d : UInt8) : Bool := decide (d.toNat ≠ 125)
/-- What stands behind the colon of a part. -/
def bracedR (r : Str) (n : Nat) : Option (Fm × Str) :=
  match r with
  | [] => none
  | c :: r' =>
    if c.toNat = 47 then
      (match r'.dropWhile ne125 with
       | [] => none
       | _ :: r2 => if wayOf (r'.takeWhile ne125) = 0 then none else some (⟨2, n, wayOf (r'.takeWhile ne125), [], []⟩, r2))
    else if c.toNat = 43 then
      (match untilL 125 r' [] with
       | some (t, _ :: r2) => some (⟨3, n, 0, t, []⟩, r2)
       | _ => none)
    else if c.toNat = 63 then
      (match untilL 58 r' [] with
       | some (t, _ :: r2) =>
         (match untilL 125 r2 [] with
          | some (u, _ :: r3) => some (⟨5, n, 0, t, u⟩, r3)
          | _ => none)
       | _ => none)
    else if c.toNat = 45 then
      (match untilL 125 r' [] with
       | some (t, _ :: r2) => some (⟨4, n, 0, [], t⟩, r2)
       | _ => none)
    else
      (match untilL 125 (c :: r') [] with
       | some (t, _ :: r2) => some (⟨4, n, 0, [], t⟩, r2)
       | _ => none)
def partC (n : Nat) : Str → Option (Fm × Str)
  | [] => none
  | d :: r3 => if d.toNat = 125 then some (⟨1, n, 0, [], []⟩, r3) else if d.toNat = 58 then bracedR r3 n else none
def partB : Str → Option (Fm × Str)
  | [] => none
  | c :: r1 => if c.toNat = 123 then (match numR r1 with | none => none | some p => partC p.1 p.2) else none
/-- What stands behind a dollar. -/
def partR (r : Str) : Option (Fm × Str) :=
  match numR r with
  | some p => some (⟨1, p.1, 0, [], []⟩, p.2)
  | none => partB r
theorem untilL_head (one : Int) : ∀ (r t : Str) {u s : Str}, untilL one r t = some (u, s) → ∃ c s', s = c :: s' ∧ c.toNat = one.toNat
  | [], t, u, s, h => by simp [untilL] at h
  | [c], t, u, s, h => by
    simp only [untilL] at h
    split at h
    · rename_i hc; simp at h; exact ⟨c, [], h.2.symm, hc⟩
    · cases h
  | c :: d :: r, t, u, s, h => by
    simp only [untilL] at h
    split at h
    · rename_i hc; simp at h; exact ⟨c, d :: r, h.2.symm, hc⟩
    · split at h
      · exact untilL_head one r _ h
      · exact untilL_head one (d :: r) _ h
theorem numL_len : ∀ (r : Str) (k n : Nat) {m : Nat} {s : Str}, numL r k n = some (m, s) → s.length ≤ r.length ∧ (k = 0 → s.length < r.length)
  | [], k, n, m, s, h => by
    simp only [numL] at h
    split at h
    · injection h with h; injection h with _ h; subst h; exact ⟨Nat.le_refl _, fun e => by omega⟩
    · cases h
  | c :: r, k, n, m, s, h => by
    simp only [numL] at h
    split at h
    · split at h
      · cases h
      · have := numL_len r (k + 1) _ h; simp; omega
    · split at h
      · injection h with h; injection h with _ h; subst h; exact ⟨Nat.le_refl _, fun e => by omega⟩
      · cases h
theorem numR_len {r : Str} {m : Nat} {s : Str} (h : numR r = some (m, s)) : s.length < r.length := (numL_len r 0 0 h).2 rfl
theorem untilL_len (one : Int) : ∀ (r t : Str) {u s : Str}, untilL one r t = some (u, s) → s.length ≤ r.length
  | [], t, u, s, h => by simp [untilL] at h
  | [c], t, u, s, h => by
    simp only [untilL] at h
    split at h
    · simp at h; rw [← h.2]; simp
    · cases h
  | c :: d :: r, t, u, s, h => by
    simp only [untilL] at h
    split at h
    · simp at h; rw [← h.2]; simp
    · split at h
      · have := untilL_len one r _ h; simp; omega
      · have := untilL_len one (d :: r) _ h; simp at *; omega
theorem bracedR_len {r : Str} {n : Nat} {f : Fm} {s : Str} (h : bracedR r n = some (f, s)) : s.length < r.length := by
  cases r with
  | nil => cases h
  | cons c r =>
    simp only [bracedR] at h
    split at h
    · have h1 := congrArg List.length (List.takeWhile_append_dropWhile (p := ne125) (l := r))
      split at h
      · cases h
      · rename_i heq
        split at h
        · cases h
        · injection h with h; injection h with _ h; subst h
          rw [heq] at h1; simp at h1 ⊢; omega
    · split at h
      · split at h
        · rename_i heq
          have := untilL_len _ _ _ heq
          injection h with h; injection h with _ h; subst h; simp at *; omega
        · cases h
      · split at h
        · split at h
          · rename_i heq
            have h1 := untilL_len _ _ _ heq
            split at h
            · rename_i heq2
              have h2 := untilL_len _ _ _ heq2
              injection h with h; injection h with _ h; subst h; simp at *; omega
            · cases h
          · cases h
        · split at h
          · split at h
            · rename_i heq
              have := untilL_len _ _ _ heq
              injection h with h; injection h with _ h; subst h; simp at *; omega
            · cases h
          · split at h
            · rename_i heq
              have := untilL_len _ _ _ heq
              injection h with h; injection h with _ h; subst h; simp at *; omega
            · cases h
theorem partR_len {r : Str} {f : Fm} {s : Str} (h : partR r = some (f, s)) : s.length < r.length := by
  unfold partR at h
  split at h
  · rename_i p heq
    obtain ⟨m, s'⟩ := p
    have := numR_len heq
    injection h with h; injection h with _ h; subst h; exact this
  · cases r with
    | nil => cases h
    | cons c r =>
      simp only [partB] at h
      split at h
      · split at h
        · cases h
        · rename_i p heq
          obtain ⟨m, s'⟩ := p
          have h1 := numR_len heq
          cases s' with
          | nil => cases h
          | cons d r3 =>
            simp only [partC] at h
            split at h
            · injection h with h; injection h with _ h; subst h; simp at *; omega
            · split at h
              · have := bracedR_len h; simp at *; omega
              · cases h
      · cases h
/-- Behind a text the part that it is. -/
def flushF (tx : Str) (fs : List Fm) : List Fm := if tx = [] then fs else fs ++ [⟨0, 0, 0, tx, []⟩]
/-- 'Read', with as many steps as it may want: what is left, the text and the parts so far. -/
def readN : Nat → Str → Str → List Fm → Option (List Fm × Str)
  | 0, _, _, _ => none
  | _ + 1, [], _, _ => none
  | k + 1, c :: r, tx, fs =>
    if c.toNat = 47 then some (flushF tx fs, c :: r)
    else if c.toNat = 36 then
      (match partR r with
       | some p => readN k p.2 [] (flushF tx fs ++ [p.1])
       | none => readN k r (tx ++ [c]) fs)
    else if c.toNat = 92 ∧ stands r four = true then readN k (r.drop 1) (tx ++ r.take 1) fs
    else readN k r (tx ++ [c]) fs
theorem readN_more : ∀ (k k' : Nat) (r tx : Str) (fs : List Fm), r.length < k → r.length < k' → readN k r tx fs = readN k' r tx fs
  | 0, _, _, _, _, h, _ => by omega
  | _ + 1, 0, _, _, _, _, h => by omega
  | k + 1, k' + 1, [], tx, fs, _, _ => rfl
  | k + 1, k' + 1, c :: r, tx, fs, h, h' => by
    simp only [List.length_cons] at h h'
    have hd : (r.drop 1).length ≤ r.length := by simp
    simp only [readN]
    rw [readN_more k k' r (tx ++ [c]) fs (by omega) (by omega), readN_more k k' (r.drop 1) (tx ++ r.take 1) fs (by omega) (by omega)]
    cases hp : partR r with
    | none => rfl
    | some p =>
      have hl := partR_len (f := p.1) (s := p.2) hp
      simp only []
      rw [readN_more k k' p.2 [] _ (by omega) (by omega)]
def readX (r tx : Str) (fs : List Fm) : Option (List Fm × Str) := readN (r.length + 1) r tx fs
theorem readX_nil (tx : Str) (fs : List Fm) : readX [] tx fs = none := rfl
theorem readX_cons (c : UInt8) (r tx : Str) (fs : List Fm) : readX (c :: r) tx fs =
    if c.toNat = 47 then some (flushF tx fs, c :: r)
    else if c.toNat = 36 then
      (match partR r with
       | some p => readX p.2 [] (flushF tx fs ++ [p.1])
       | none => readX r (tx ++ [c]) fs)
    else if c.toNat = 92 ∧ stands r four = true then readX (r.drop 1) (tx ++ r.take 1) fs
    else readX r (tx ++ [c]) fs := by
  have hd : (r.drop 1).length ≤ r.length := by simp
  simp only [readX, readN, List.length_cons]
  rw [readN_more (r.length + 1) ((r.drop 1).length + 1) (r.drop 1) (tx ++ r.take 1) fs (by omega) (by omega)]
  cases hp : partR r with
  | none => rfl
  | some p =>
    have hl := partR_len (f := p.1) (s := p.2) hp
    simp only []
    rw [readN_more (r.length + 1) (p.2.length + 1) p.2 [] _ (by omega) (by omega)]
end Go.Proofs.YtlomkfennnmkdaaDoor
