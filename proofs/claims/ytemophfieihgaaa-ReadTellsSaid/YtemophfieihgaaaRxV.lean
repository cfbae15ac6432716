/- Regular expressions in memory: what a value of eight cells is read as. -/
import Derived.Test.YtemophfieihgaaaMem
import Derived.Test.YtemophfieihgaaaRxM
set_option maxRecDepth 100000
namespace Go.Proofs.Ytemophfieihgaaa
open Go.RowKit
/-- A slice that reads as cells, in a block of S. -/
def SlS (w : World) (S : Nat → Prop) (a : Option Addr) (sz n : Nat) (cs : List Value) : Prop :=
  cs.length = n * sz ∧ (0 < n → ∃ b o, a = some ⟨b, o, none⟩ ∧ S b ∧ b < w.heap.size ∧ ∀ (j : Nat) (u : Value), cs[j]? = some u → w.cell? ⟨b, o + j, none⟩ = some u)
/-- What lies in the blocks of S is as it was. -/
def Kept (S : Nat → Prop) (w w' : World) : Prop := w.heap.size ≤ w'.heap.size ∧ ∀ b, S b → b < w.heap.size → w'.heap[b]? = w.heap[b]?
theorem Kept.below {S : Nat → Prop} {B : Nat} {w w' : World} (h : Below B w w') (hS : ∀ b, S b → b < w.heap.size → b < B) : Kept S w w' := ⟨h.size, fun b hb hlt => h.block b (hS b hb hlt)⟩
theorem Kept.all {S : Nat → Prop} {w w' : World} (h : Below w.heap.size w w') : Kept S w w' := ⟨h.size, fun b _ hlt => h.block b hlt⟩
theorem SlS.keep {w w' : World} {S : Nat → Prop} {a : Option Addr} {sz n : Nat} {cs : List Value} (h : SlS w S a sz n cs) (hk : Kept S w w') : SlS w' S a sz n cs :=
  ⟨h.1, fun hn => by
    obtain ⟨b, o, h1, h2, h3, h4⟩ := h.2 hn
    exact ⟨b, o, h1, h2, Nat.lt_of_lt_of_le h3 hk.1, fun j u hu => by
      have e := hk.2 b h2 h3
      have := h4 j u hu
      simp only [World.cell?] at this ⊢; rw [e]; exact this⟩⟩
theorem SlS.mono {w : World} {S S' : Nat → Prop} {a : Option Addr} {sz n : Nat} {cs : List Value} (h : SlS w S a sz n cs) (hS : ∀ b, S b → b < w.heap.size → S' b) : SlS w S' a sz n cs :=
  ⟨h.1, fun hn => by
    obtain ⟨b, o, h1, h2, h3, h4⟩ := h.2 hn
    exact ⟨b, o, h1, hS b h2 h3, h3, h4⟩⟩
theorem SlS.none_ (w : World) (S : Nat → Prop) (a : Option Addr) (sz : Nat) : SlS w S a sz 0 [] := ⟨by simp, fun h => by omega⟩
theorem SlS.sl {w : World} {S : Nat → Prop} {a : Option Addr} {sz n : Nat} {cs : List Value} (h : SlS w S a sz n cs) : Sl w w.heap.size a sz n cs :=
  ⟨h.1, fun hn => by
    obtain ⟨b, o, h1, h2, h3, h4⟩ := h.2 hn
    exact ⟨b, o, h1, h3, h4⟩⟩
theorem Sl.slS {w : World} {B : Nat} {a : Option Addr} {sz n : Nat} {cs : List Value} (h : Sl w B a sz n cs) (hB : B ≤ w.heap.size) : SlS w (· < B) a sz n cs :=
  ⟨h.1, fun hn => by
    obtain ⟨b, o, h1, h2, h3⟩ := h.2 hn
    exact ⟨b, o, h1, h2, by omega, h3⟩⟩
/-- Rows as cells. -/
def rcells (rs : List (Str × Str)) : List Value := rs.flatMap fun r => [.string ⟨(r.1).toArray⟩, .string ⟨(r.2).toArray⟩]
theorem rcells_length (rs : List (Str × Str)) : (rcells rs).length = rs.length * 2 := by
  induction rs with
  | nil => rfl
  | cons r rs ih => simp only [rcells, List.flatMap_cons, List.length_append] at *; rw [ih]; simp; omega
theorem rcells_at {rs : List (Str × Str)} {k : Nat} {r : Str × Str} (h : rs[k]? = some r) : (rcells rs)[k * 2]? = some (.string ⟨(r.1).toArray⟩) ∧ (rcells rs)[k * 2 + 1]? = some (.string ⟨(r.2).toArray⟩) := by
  induction rs generalizing k with
  | nil => simp at h
  | cons g rs ih =>
    cases k with
    | zero => simp at h; subst h; simp [rcells]
    | succ k =>
      simp only [List.getElem?_cons_succ] at h
      obtain ⟨h1, h2⟩ := ih h
      simp only [rcells, List.flatMap_cons] at h1 h2 ⊢
      refine ⟨?_, ?_⟩
      · rw [List.getElem?_append_right (by simp; omega)]; simpa [show (k + 1) * 2 - 2 = k * 2 by omega] using h1
      · rw [List.getElem?_append_right (by simp; omega)]; simpa [show (k + 1) * 2 + 1 - 2 = k * 2 + 1 by omega] using h2
theorem Sl.row {w : World} {B : Nat} {a : Option Addr} {n : Nat} {rs : List (Str × Str)} (h : Sl w B a 2 n (rcells rs)) {k : Nat} {r : Str × Str} (hk : rs[k]? = some r) :
    ∃ b o, a = some ⟨b, o, none⟩ ∧ b < B ∧ w.cell? ⟨b, o + k * 2, none⟩ = some (.string ⟨(r.1).toArray⟩) ∧ w.cell? ⟨b, o + k * 2 + 1, none⟩ = some (.string ⟨(r.2).toArray⟩) := by
  have hlt := (List.getElem?_eq_some_iff.1 hk).1
  have hn : n = rs.length := by have := h.1; rw [rcells_length] at this; omega
  obtain ⟨b, o, h1, h2, h3⟩ := h.2 (by omega)
  obtain ⟨c1, c2⟩ := rcells_at hk
  exact ⟨b, o, h1, h2, h3 _ _ c1, h3 _ _ c2⟩
theorem Sl.row_len {w : World} {B : Nat} {a : Option Addr} {n : Nat} {rs : List (Str × Str)} (h : Sl w B a 2 n (rcells rs)) : n = rs.length := by
  have := h.1; rw [rcells_length] at this; omega
/-- The eight cells of a part. -/
def rxc (k : Int) (c : Str) (ng : Bool) (ra : Option Addr) (rn rc : Nat) (lo hi : Int) (lz : Bool) (ka : Option Addr) (kn kc : Nat) : List Value :=
  [.int .i64 k, .string ⟨(c).toArray⟩, .bool ng, .slice ra rn rc, .int .i64 lo, .int .i64 hi, .bool lz, .slice ka kn kc]
mutual
inductive RxV (w : World) (S : Nat → Prop) : List Value → Rx → Prop
  | mk {k : Int} {c : Str} {ng : Bool} {rs : List (Str × Str)} {lo hi : Int} {lz : Bool} {ks : List Rx} {ra ka : Option Addr} {rc kc : Nat} {css : List (List Value)} :
      SlS w S ra 2 rs.length (rcells rs) → SlS w S ka 8 ks.length css.flatten → RxVs w S css ks → RxV w S (rxc k c ng ra rs.length rc lo hi lz ka ks.length kc) (.mk k c ng rs lo hi lz ks)
inductive RxVs (w : World) (S : Nat → Prop) : List (List Value) → List Rx → Prop
  | nil : RxVs w S [] []
  | cons {c : List Value} {x : Rx} {cs : List (List Value)} {xs : List Rx} : RxV w S c x → RxVs w S cs xs → RxVs w S (c :: cs) (x :: xs)
end
mutual
theorem RxV.keep {w w' : World} {S : Nat → Prop} (hk : Kept S w w') : ∀ {c : List Value} {x : Rx}, RxV w S c x → RxV w' S c x
  | _, _, .mk h1 h2 h3 => .mk (h1.keep hk) (h2.keep hk) (RxVs.keep hk h3)
theorem RxVs.keep {w w' : World} {S : Nat → Prop} (hk : Kept S w w') : ∀ {cs : List (List Value)} {xs : List Rx}, RxVs w S cs xs → RxVs w' S cs xs
  | _, _, .nil => .nil
  | _, _, .cons h1 h2 => .cons (RxV.keep hk h1) (RxVs.keep hk h2)
end
mutual
theorem RxV.mono {w : World} {S S' : Nat → Prop} (hS : ∀ b, S b → b < w.heap.size → S' b) : ∀ {c : List Value} {x : Rx}, RxV w S c x → RxV w S' c x
  | _, _, .mk h1 h2 h3 => .mk (h1.mono hS) (h2.mono hS) (RxVs.mono hS h3)
theorem RxVs.mono {w : World} {S S' : Nat → Prop} (hS : ∀ b, S b → b < w.heap.size → S' b) : ∀ {cs : List (List Value)} {xs : List Rx}, RxVs w S cs xs → RxVs w S' cs xs
  | _, _, .nil => .nil
  | _, _, .cons h1 h2 => .cons (RxV.mono hS h1) (RxVs.mono hS h2)
end
def Any (_ : Nat) : Prop := True
theorem RxV.any {w : World} {S : Nat → Prop} {c : List Value} {x : Rx} (h : RxV w S c x) : RxV w Any c x := h.mono fun _ _ _ => trivial
theorem RxVs.any {w : World} {S : Nat → Prop} {c : List (List Value)} {x : List Rx} (h : RxVs w S c x) : RxVs w Any c x := h.mono fun _ _ _ => trivial
theorem RxV.later {w w' : World} {S : Nat → Prop} {c : List Value} {x : Rx} (h : RxV w S c x) (hb : Below w.heap.size w w') : RxV w' S c x := h.keep (Kept.all hb)
theorem RxVs.later {w w' : World} {S : Nat → Prop} {c : List (List Value)} {x : List Rx} (h : RxVs w S c x) (hb : Below w.heap.size w w') : RxVs w' S c x := h.keep (Kept.all hb)
theorem RxV.len {w : World} {S : Nat → Prop} {c : List Value} {x : Rx} (h : RxV w S c x) : c.length = 8 := by cases h; rfl
theorem RxVs.length {w : World} {S : Nat → Prop} : ∀ {cs : List (List Value)} {xs : List Rx}, RxVs w S cs xs → cs.length = xs.length
  | _, _, .nil => rfl
  | _, _, .cons _ h => by simp [h.length]
theorem RxVs.eights {w : World} {S : Nat → Prop} : ∀ {cs : List (List Value)} {xs : List Rx}, RxVs w S cs xs → ∀ c ∈ cs, c.length = 8
  | _, _, .nil, c, hc => by simp at hc
  | _, _, .cons h1 h2, c, hc => by
    rcases List.mem_cons.1 hc with rfl | hc
    · exact h1.len
    · exact h2.eights c hc
theorem RxVs.at_ {w : World} {S : Nat → Prop} : ∀ {cs : List (List Value)} {xs : List Rx}, RxVs w S cs xs → ∀ {k : Nat} {x : Rx}, xs[k]? = some x → ∃ c, cs[k]? = some c ∧ RxV w S c x
  | _, _, .nil, k, x, h => by simp at h
  | _, _, .cons h1 h2, 0, x, h => by simp at h; subst h; exact ⟨_, rfl, h1⟩
  | _, _, .cons h1 h2, k + 1, x, h => by simpa using h2.at_ (by simpa using h)
theorem RxVs.append {w : World} {S : Nat → Prop} : ∀ {cs ds : List (List Value)} {xs ys : List Rx}, RxVs w S cs xs → RxVs w S ds ys → RxVs w S (cs ++ ds) (xs ++ ys)
  | _, _, _, _, .nil, h => h
  | _, _, _, _, .cons h1 h2, h => .cons h1 (h2.append h)
theorem flat_at {C : Nat} : ∀ {css : List (List Value)}, (∀ c ∈ css, c.length = C) → ∀ {k : Nat} {c : List Value}, css[k]? = some c → ∀ {j : Nat} {u : Value}, c[j]? = some u → css.flatten[k * C + j]? = some u
  | [], _, k, c, h, j, u, hj => by simp at h
  | d :: css, hC, 0, c, h, j, u, hj => by
    simp at h; subst h
    rw [List.flatten_cons, Nat.zero_mul, Nat.zero_add, List.getElem?_append_left (List.getElem?_eq_some_iff.1 hj).1]; exact hj
  | d :: css, hC, k + 1, c, h, j, u, hj => by
    have hd := hC d (List.mem_cons_self ..)
    have ih := flat_at (fun x hx => hC x (List.mem_cons_of_mem _ hx)) (show css[k]? = some c by simpa using h) hj
    rw [List.flatten_cons, List.getElem?_append_right (by rw [hd, Nat.succ_mul]; omega), hd, show (k + 1) * C + j - C = k * C + j by rw [Nat.succ_mul]; omega]
    exact ih
/-- A slice of parts. -/
def RxSl (w : World) (S : Nat → Prop) (a : Option Addr) (n : Nat) (xs : List Rx) : Prop := ∃ css, SlS w S a 8 n css.flatten ∧ RxVs w S css xs
theorem RxSl.keep {w w' : World} {S : Nat → Prop} {a : Option Addr} {n : Nat} {xs : List Rx} (h : RxSl w S a n xs) (hk : Kept S w w') : RxSl w' S a n xs := by
  obtain ⟨css, h1, h2⟩ := h
  exact ⟨css, h1.keep hk, h2.keep hk⟩
theorem RxSl.later {w w' : World} {S : Nat → Prop} {a : Option Addr} {n : Nat} {xs : List Rx} (h : RxSl w S a n xs) (hb : Below w.heap.size w w') : RxSl w' S a n xs := h.keep (Kept.all hb)
theorem RxSl.mono {w : World} {S S' : Nat → Prop} {a : Option Addr} {n : Nat} {xs : List Rx} (h : RxSl w S a n xs) (hS : ∀ b, S b → b < w.heap.size → S' b) : RxSl w S' a n xs := by
  obtain ⟨css, h1, h2⟩ := h
  exact ⟨css, h1.mono hS, h2.mono hS⟩
theorem RxSl.len {w : World} {S : Nat → Prop} {a : Option Addr} {n : Nat} {xs : List Rx} (h : RxSl w S a n xs) : n = xs.length := by
  obtain ⟨css, h1, h2⟩ := h
  have h3 := h1.1
  have h4 : ∀ {cs : List (List Value)}, (∀ c ∈ cs, c.length = 8) → cs.flatten.length = cs.length * 8 := by
    intro cs
    induction cs with
    | nil => intro _; rfl
    | cons c cs ih => intro h; rw [List.flatten_cons, List.length_append, ih (fun x hx => h x (List.mem_cons_of_mem _ hx)), h c (List.mem_cons_self ..)]; simp; omega
  rw [h4 h2.eights, h2.length] at h3; omega
/-- Element k of a slice of parts: its cells. -/
theorem RxSl.at_ {w : World} {S : Nat → Prop} {a : Option Addr} {n : Nat} {xs : List Rx} (h : RxSl w S a n xs) {k : Nat} {x : Rx} (hk : xs[k]? = some x) :
    ∃ b o c, a = some ⟨b, o, none⟩ ∧ S b ∧ b < w.heap.size ∧ RxV w S c x ∧ ∀ (j : Nat) (u : Value), c[j]? = some u → w.cell? ⟨b, o + (k * 8 + j), none⟩ = some u := by
  have hn := h.len
  obtain ⟨css, h1, h2⟩ := h
  have hlt := (List.getElem?_eq_some_iff.1 hk).1
  obtain ⟨b, o, e1, e2, e3, e4⟩ := h1.2 (by omega)
  obtain ⟨c, hc, hv⟩ := h2.at_ hk
  exact ⟨b, o, c, e1, e2, e3, hv, fun j u hj => e4 _ u (flat_at h2.eights hc hj)⟩
/-- .. told cell by cell. -/
theorem RxSl.cells {w : World} {S : Nat → Prop} {a : Option Addr} {n : Nat} {xs : List Rx} (h : RxSl w S a n xs) {m : Nat} {k : Int} {c : Str} {ng : Bool} {rs : List (Str × Str)} {lo hi : Int} {lz : Bool} {ks : List Rx} (hk : xs[m]? = some (.mk k c ng rs lo hi lz ks)) :
    ∃ b o ra rc ka kc, a = some ⟨b, o, none⟩ ∧ S b ∧ b < w.heap.size ∧ SlS w S ra 2 rs.length (rcells rs) ∧ RxSl w S ka ks.length ks ∧ RxV w S (rxc k c ng ra rs.length rc lo hi lz ka ks.length kc) (.mk k c ng rs lo hi lz ks) ∧
      w.cell? ⟨b, o + m * 8, none⟩ = some (.int .i64 k) ∧ w.cell? ⟨b, o + m * 8 + 1, none⟩ = some (.string ⟨(c).toArray⟩) ∧ w.cell? ⟨b, o + m * 8 + 2, none⟩ = some (.bool ng) ∧ w.cell? ⟨b, o + m * 8 + 3, none⟩ = some (.slice ra rs.length rc) ∧
      w.cell? ⟨b, o + m * 8 + 4, none⟩ = some (.int .i64 lo) ∧ w.cell? ⟨b, o + m * 8 + 5, none⟩ = some (.int .i64 hi) ∧ w.cell? ⟨b, o + m * 8 + 6, none⟩ = some (.bool lz) ∧ w.cell? ⟨b, o + m * 8 + 7, none⟩ = some (.slice ka ks.length kc) := by
  obtain ⟨b, o, cc, e1, e2, e3, hv, hc⟩ := h.at_ hk
  cases hv with
  | mk h1 h2 h3 =>
    exact ⟨b, o, _, _, _, _, e1, e2, e3, h1, ⟨_, h2, h3⟩, .mk h1 h2 h3, hc 0 _ rfl, hc 1 _ rfl, hc 2 _ rfl, hc 3 _ rfl, hc 4 _ rfl, hc 5 _ rfl, hc 6 _ rfl, hc 7 _ rfl⟩
/-- A value that is a part, told field by field. -/
theorem RxV.open_ {w : World} {S : Nat → Prop} {cc : List Value} {k : Int} {c : Str} {ng : Bool} {rs : List (Str × Str)} {lo hi : Int} {lz : Bool} {ks : List Rx} (h : RxV w S cc (.mk k c ng rs lo hi lz ks)) :
    ∃ ra rc ka kc, cc = rxc k c ng ra rs.length rc lo hi lz ka ks.length kc ∧ SlS w S ra 2 rs.length (rcells rs) ∧ RxSl w S ka ks.length ks := by
  cases h with
  | mk h1 h2 h3 => exact ⟨_, _, _, _, rfl, h1, _, h2, h3⟩
theorem RxV.close {w : World} {S : Nat → Prop} {k : Int} {c : Str} {ng : Bool} {rs : List (Str × Str)} {lo hi : Int} {lz : Bool} {ks : List Rx} {ra ka : Option Addr} {rc kc : Nat} (h1 : SlS w S ra 2 rs.length (rcells rs)) (h2 : RxSl w S ka ks.length ks) :
    RxV w S (rxc k c ng ra rs.length rc lo hi lz ka ks.length kc) (.mk k c ng rs lo hi lz ks) := by
  obtain ⟨css, a, b⟩ := h2
  exact .mk h1 a b
end Go.Proofs.Ytemophfieihgaaa
