/- Formats as data: their parts, a slice of them in memory; the plain functions on them. -/
import Derived.Test.YtlomkfennnmkdaaT5
import Derived.Test.YtlomkfennnmkdaaFmtM
namespace Go.Proofs.Ytlomkfennnmkdaa
open Go.RowKit
def Fm.cells (f : Fm) : List Value := [.int .i64 f.kind, .int .i64 f.n, .int .i64 f.cse, .string ⟨(f.thn).toArray⟩, .string ⟨(f.els).toArray⟩]
/-- A slice of n elements, of sz cells each, that reads as the cells cs; below block B. -/
def Sl (w : World) (B : Nat) (a : Option Addr) (sz n : Nat) (cs : List Value) : Prop :=
  cs.length = n * sz ∧ (0 < n → ∃ b o, a = some ⟨b, o, none⟩ ∧ b < B ∧ ∀ (j : Nat) (u : Value), cs[j]? = some u → w.cell? ⟨b, o + j, none⟩ = some u)
theorem Sl.keep {w w' : World} {B : Nat} {a : Option Addr} {sz n : Nat} {cs : List Value} (h : Sl w B a sz n cs) (hb : Below B w w') : Sl w' B a sz n cs :=
  ⟨h.1, fun hn => by
    obtain ⟨b, o, h1, h2, h3⟩ := h.2 hn
    exact ⟨b, o, h1, h2, fun j u hu => (hb.cell (p := ⟨b, o + j, none⟩) h2).trans (h3 j u hu)⟩⟩
theorem Sl.mono {w : World} {B B' : Nat} {a : Option Addr} {sz n : Nat} {cs : List Value} (h : Sl w B a sz n cs) (hB : B ≤ B') : Sl w B' a sz n cs :=
  ⟨h.1, fun hn => by
    obtain ⟨b, o, h1, h2, h3⟩ := h.2 hn
    exact ⟨b, o, h1, by omega, h3⟩⟩
theorem Sl.none_ (w : World) (B : Nat) (a : Option Addr) (sz : Nat) : Sl w B a sz 0 [] := ⟨by simp, fun h => by omega⟩
theorem Sl.of_own {w : World} {B0 : Nat} {e : TypeId} {sz : Nat} {a : Option Addr} {n c : Nat} {xs : List Value} (h : w.ownsRow B0 e sz (.slice a n c) n xs) : Sl w w.heap.size a sz n xs := by
  refine ⟨h.1, fun hn => ?_⟩
  rcases h.2 with ⟨hv, h0⟩ | ⟨g, cap, cur, hv, hb, hg, r⟩
  · omega
  · injection hv with ha _ _
    subst ha
    refine ⟨g, 0, rfl, heap_lt hg, fun j u hu => ?_⟩
    have := h.cells (g := g) rfl j u hu
    have hadd : (⟨g, 0, none⟩ : Addr).add j = ⟨g, 0 + j, none⟩ := by unfold Addr.add; split <;> simp_all
    rw [hadd] at this; exact this
def fcells (fs : List Fm) : List Value := fs.flatMap Fm.cells
theorem fcells_length (fs : List Fm) : (fcells fs).length = fs.length * 5 := by
  induction fs with
  | nil => rfl
  | cons f fs ih => simp only [fcells, List.flatMap_cons, List.length_append] at *; rw [ih]; simp [Fm.cells]; omega
theorem fcells_at {fs : List Fm} {k : Nat} {f : Fm} (h : fs[k]? = some f) (j : Nat) (hj : j < 5) : (fcells fs)[k * 5 + j]? = f.cells[j]? := by
  induction fs generalizing k with
  | nil => simp at h
  | cons g fs ih =>
    cases k with
    | zero =>
      simp at h; subst h
      simp only [fcells, List.flatMap_cons, Nat.zero_mul, Nat.zero_add]
      rw [List.getElem?_append_left (by simp [Fm.cells]; omega)]
    | succ k =>
      simp only [List.getElem?_cons_succ] at h
      simp only [fcells, List.flatMap_cons]
      rw [List.getElem?_append_right (by simp [Fm.cells]; omega)]
      rw [show (k + 1) * 5 + j - g.cells.length = k * 5 + j by simp [Fm.cells]; omega]
      exact ih h
/-- Element k of a slice of formats' parts. -/
theorem Sl.fm {w : World} {B : Nat} {a : Option Addr} {n : Nat} {fs : List Fm} (h : Sl w B a 5 n (fcells fs)) {k : Nat} {f : Fm} (hk : fs[k]? = some f) :
    ∃ b o, a = some ⟨b, o, none⟩ ∧ b < B ∧ w.cell? ⟨b, o + k * 5, none⟩ = some (.int .i64 f.kind) ∧ w.cell? ⟨b, o + k * 5 + 1, none⟩ = some (.int .i64 f.n) ∧ w.cell? ⟨b, o + k * 5 + 2, none⟩ = some (.int .i64 f.cse) ∧
      w.cell? ⟨b, o + k * 5 + 3, none⟩ = some (.string ⟨(f.thn).toArray⟩) ∧ w.cell? ⟨b, o + k * 5 + 4, none⟩ = some (.string ⟨(f.els).toArray⟩) := by
  have hlt := (List.getElem?_eq_some_iff.1 hk).1
  have hn : n = fs.length := by have := h.1; rw [fcells_length] at this; omega
  obtain ⟨b, o, h1, h2, h3⟩ := h.2 (by omega)
  refine ⟨b, o, h1, h2, ?_, ?_, ?_, ?_, ?_⟩
  · exact h3 (k * 5 + 0) _ (fcells_at hk 0 (by omega))
  · exact h3 (k * 5 + 1) _ (fcells_at hk 1 (by omega))
  · exact h3 (k * 5 + 2) _ (fcells_at hk 2 (by omega))
  · exact h3 (k * 5 + 3) _ (fcells_at hk 3 (by omega))
  · exact h3 (k * 5 + 4) _ (fcells_at hk 4 (by omega))

def blankB (f : Fm) (n way thn els : Bool) : Bool := (n || decide (f.n = 0)) && (way || decide (f.cse = 0)) && (thn || decide (f.thn = [])) && (els || decide (f.els = []))
def mayF (f : Fm) : Bool :=
  decide (0 ≤ f.n ∧ f.n ≤ 9999) &&
  (if f.kind = 0 then blankB f false false true false && decide (f.thn ≠ [])
   else if f.kind = 1 then blankB f true false false false
   else if f.kind = 2 then blankB f true true false false && decide (nameOf f.cse ≠ [])
   else if f.kind = 3 then blankB f true false true false
   else if f.kind = 4 then blankB f true false false true
   else if f.kind = 5 then blankB f true false true true
   else false)
/-- 'May': pt: is the part ahead a text? -/
def mayL : Bool → List Fm → Bool
  | _, [] => true
  | pt, f :: r => mayF f && !(decide (f.kind = 0) && pt) && mayL (decide (f.kind = 0)) r
def mayFs (fs : List Fm) : Bool := mayL false fs
theorem ldrop_cons {α : Type} {l r : List α} {i : Nat} {c : α} (h : l.drop i = c :: r) : i < l.length ∧ l[i]? = some c ∧ l.drop (i + 1) = r := by
  have hi : i < l.length := by
    rcases Nat.lt_or_ge i l.length with h1 | h1
    · exact h1
    · rw [List.drop_of_length_le h1] at h; cases h
  rw [List.drop_eq_getElem_cons hi] at h
  injection h with h1 h2
  exact ⟨hi, by rw [List.getElem?_eq_getElem hi, h1], h2⟩
theorem Sl.fs_len {w : World} {B : Nat} {a : Option Addr} {n : Nat} {fs : List Fm} (h : Sl w B a 5 n (fcells fs)) : n = fs.length := by
  have := h.1; rw [fcells_length] at this; omega
theorem fm_eql : Try.prog.stoodInHeld 28 = false := by kernel_rfl
theorem fm_fields : Try.prog.underlying 28 = some (.struct (Try.prog.fieldsOf 28)) := by kernel_rfl
theorem fm_guard : Try.prog.eqGuardType Try.prog.depth 28 = false := by kernel_rfl
theorem fm_dec (f g : Fm) : decide (f = g) = (f.kind == g.kind && (f.n == g.n && (f.cse == g.cse && (f.thn == g.thn && f.els == g.els)))) := by
  obtain ⟨a, b, c, d, e⟩ := f
  obtain ⟨a', b', c', d', e'⟩ := g
  rw [Bool.eq_iff_iff]; simp
theorem fm_eqIn (f g : Fm) (w : World) : (Op.equalIn 10000 28 (.agg #[.int .i64 (f).kind, .int .i64 (f).n, .int .i64 (f).cse, .string ⟨((f).thn).toArray⟩, .string ⟨((f).els).toArray⟩]) (.agg #[.int .i64 (g).kind, .int .i64 (g).n, .int .i64 (g).cse, .string ⟨((g).thn).toArray⟩, .string ⟨((g).els).toArray⟩])).run Try.prog w = .ok (decide (f = g)) w := by
  rw [run_equalIn_agg w 9999 _ _ _ fm_fields fm_eql, fm_dec]
  have hF : (Try.prog.fieldsOf 28).toList = [{ name := "Kind", type := 3, offset := 0, embedded := false, tag := "", pkgPath := "", byteOffset := 0 }, { name := "N", type := 3, offset := 1, embedded := false, tag := "", pkgPath := "", byteOffset := 8 }, { name := "Case", type := 3, offset := 2, embedded := false, tag := "", pkgPath := "", byteOffset := 16 }, { name := "Then", type := 9, offset := 3, embedded := false, tag := "", pkgPath := "", byteOffset := 24 }, { name := "Else", type := 9, offset := 4, embedded := false, tag := "", pkgPath := "", byteOffset := 40 }] := by kernel_rfl
  rw [hF]
  simp [go_sem, Try.underlying3, Try.underlying9]
  by_cases h1 : f.kind = g.kind <;> by_cases h2 : f.n = g.n <;> by_cases h3 : f.cse = g.cse <;> by_cases h4 : f.thn = g.thn <;> by_cases h5 : f.els = g.els <;> simp [h1, h2, h3, h4, h5]
theorem fm_neq (f g : Fm) (w : World) : (binOp .neq 28 (.agg #[.int .i64 (f).kind, .int .i64 (f).n, .int .i64 (f).cse, .string ⟨((f).thn).toArray⟩, .string ⟨((f).els).toArray⟩]) (.agg #[.int .i64 (g).kind, .int .i64 (g).n, .int .i64 (g).cse, .string ⟨((g).thn).toArray⟩, .string ⟨((g).els).toArray⟩])).run Try.prog w = .ok (.bool (!decide (f = g))) w := by
  rw [run_neq_struct, fm_eqIn]; rfl
theorem fm_eq (f g : Fm) (w : World) : (binOp .eql 28 (.agg #[.int .i64 (f).kind, .int .i64 (f).n, .int .i64 (f).cse, .string ⟨((f).thn).toArray⟩, .string ⟨((f).els).toArray⟩]) (.agg #[.int .i64 (g).kind, .int .i64 (g).n, .int .i64 (g).cse, .string ⟨((g).thn).toArray⟩, .string ⟨((g).els).toArray⟩])).run Try.prog w = .ok (.bool (decide (f = g))) w := by
  rw [run_eql_struct, fm_eqIn]; rfl
set_option maxHeartbeats 2000000 in
theorem blank_any (f : Fm) (b1 b2 b3 b4 : Bool) (w : World) :
    Calls Try.prog 25 #[.agg #[.int .i64 (f).kind, .int .i64 (f).n, .int .i64 (f).cse, .string ⟨((f).thn).toArray⟩, .string ⟨((f).els).toArray⟩], .bool b1, .bool b2, .bool b3, .bool b4] w fun e w' => e = .returned (.bool (blankB f b1 b2 b3 b4)) ∧ Below w.heap.size w w' := by
  generalize hR : blankB f b1 b2 b3 b4 = R
  have HR := Lib.hid hR
  clear hR
  cases b1 <;> cases b2 <;> cases b3 <;> cases b4
  all_goals
    go_enter Try.func25, Try.ntmps25
    go_wp2
    all_goals
      go_ret
      refine ⟨ret_bool ?_, (Below.refl _ _).alloc (Nat.le_refl _) _⟩
      rw [← HR.out, Bool.eq_iff_iff]; simp [blankB, *]
end Go.Proofs.Ytlomkfennnmkdaa
