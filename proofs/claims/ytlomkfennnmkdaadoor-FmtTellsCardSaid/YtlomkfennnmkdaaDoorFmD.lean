/- Formats as data: their parts, a slice of them in memory; the plain functions on them. -/
import Derived.Test.YtlomkfennnmkdaaDoorT5
import Derived.Test.YtlomkfennnmkdaaDoorFmtM
import Derived.Test.YtlomkfennnmkdaaDoorMem
namespace Go.Proofs.YtlomkfennnmkdaaDoor
open Go.RowKit
def Fm.cells (f : Fm) : List Value := [.int .i64 f.kind, .int .i64 f.n, .int .i64 f.cse, .string ⟨(f.thn).toArray⟩, .string ⟨(f.els).toArray⟩]
def fcells (fs : List Fm) : List Value := fs.flatMap Fm.cells
theorem fcells_length (fs : List Fm) : (fcells fs).length = fs.length * 5 := by
  induction fs with
  | nil => rfl
  | cons f fs ih => simp only [fcells, List.flatMap_cons, List.length_append] at *; rw [ih]; simp [Fm.cells]; omega
theorem fcells_at {fs : List Fm} {k : Nat} {f : Fm} (h : fs[k]? = some f) (j : Nat) (hj : j < 5) : (fcells fs)[k * 5 + j]? = f.cells[j]? := by
  induction fs generalizing k with
  | nil => simp at h
  | cons g fs ih =>
    cases k with
    | zero =>
      simp at h; subst h
      simp only [fcells, List.flatMap_cons, Nat.zero_mul, Nat.zero_add]
      rw [List.getElem?_append_left (by simp [Fm.cells]; omega)]
    | succ k =>
      simp only [List.getElem?_cons_succ] at h
      simp only [fcells, List.flatMap_cons]
      rw [List.getElem?_append_right (by simp [Fm.cells]; omega)]
      rw [show (k + 1) * 5 + j - g.cells.length = k * 5 + j by simp [Fm.cells]; omega]
      exact ih h
/-- Element k of a slice of formats' parts. -/
theorem Sl.fm {w : World} {B : Nat} {a : Option Addr} {n : Nat} {fs : List Fm} (h : Sl w B a 5 n (fcells fs)) {k : Nat} {f : Fm} (hk : fs[k]? = some f) :
    ∃ b o, a = some ⟨b, o, none⟩ ∧ b < B ∧ w.cell? ⟨b, o + k * 5, none⟩ = some (.int .i64 f.kind) ∧ w.cell? ⟨b, o + k * 5 + 1, none⟩ = some (.int .i64 f.n) ∧ w.cell? ⟨b, o + k * 5 + 2, none⟩ = some (.int .i64 f.cse) ∧
      w.cell? ⟨b, o + k * 5 + 3, none⟩ = some (.string ⟨(f.thn).toArray⟩) ∧ w.cell? ⟨b, o + k * 5 + 4, none⟩ = some (.string ⟨(f.els).toArray⟩) := by
  have hlt := (List.getElem?_eq_some_iff.1 hk).1
  have hn : n = fs.length := by have := h.1; rw [fcells_length] at this; omega
  obtain ⟨b, o, h1, h2, h3⟩ := h.2 (by omega)
  refine ⟨b, o, h1, h2, ?_, ?_, ?_, ?_, ?_⟩
  · exact h3 (k * 5 + 0) _ (fcells_at hk 0 (by omega))
  · exact h3 (k * 5 + 1) _ (fcells_at hk 1 (by omega))
  · exact h3 (k * 5 + 2) _ (fcells_at hk 2 (by omega))
  · exact h3 (k * 5 + 3) _ (fcells_at hk 3 (by omega))
  · exact h3 (k * 5 + 4) _ (fcells_at hk 4 (by omega))

def blankB (f : Fm) (n way thn els : Bool) : Bool := (n || decide (f.n = 0)) && (way || decide (f.cse = 0)) && (thn || decide (f.thn = [])) && (els || decide (f.els = []))
def mayF (f : Fm) : Bool :=
  decide (0 ≤ f.n ∧ f.n ≤ 9999) &&
  (if f.kind = 0 then blankB f false false true false && decide (f.thn ≠ [])
   else if f.kind = 1 then blankB f true false false false
   else if f.kind = 2 then blankB f true true false false && decide (nameOf f.cse ≠ [])
   else if f.kind = 3 then blankB f true false true false
   else if f.kind = 4 then blankB f true false false true
   else if f.kind = 5 then blankB f true false true true
   else false)
/-- 'May': pt: is the part ahead a text? -/
def mayL : Bool → List Fm → Bool
  | _, [] => true
  | pt, f :: r => mayF f && !(decide (f.kind = 0) && pt) && mayL (decide (f.kind = 0)) r
def mayFs (fs : List Fm) : Bool := mayL false fs
theorem Sl.fs_len {w : World} {B : Nat} {a : Option Addr} {n : Nat} {fs : List Fm} (h : Sl w B a 5 n (fcells fs)) : n = fs.length := by
  have := h.1; rw [fcells_length] at this; omega
theorem fm_eql : Tryd.prog.stoodInHeld 41 = false := by kernel_rfl
theorem fm_fields : Tryd.prog.underlying 41 = some (.struct (Tryd.prog.fieldsOf 41)) := by kernel_rfl
theorem fm_guard : Tryd.prog.eqGuardType Tryd.prog.depth 41 = false := by kernel_rfl
theorem fm_dec (f g : Fm) : decide (f = g) = (f.kind == g.kind && (f.n == g.n && (f.cse == g.cse && (f.thn == g.thn && f.els == g.els)))) := by
  obtain ⟨a, b, c, d, e⟩ := f
  obtain ⟨a', b', c', d', e'⟩ := g
  rw [Bool.eq_iff_iff]; simp
theorem fm_eqIn (f g : Fm) (w : World) : (Op.equalIn 10000 41 (.agg #[.int .i64 (f).kind, .int .i64 (f).n, .int .i64 (f).cse, .string ⟨((f).thn).toArray⟩, .string ⟨((f).els).toArray⟩]) (.agg #[.int .i64 (g).kind, .int .i64 (g).n, .int .i64 (g).cse, .string ⟨((g).thn).toArray⟩, .string ⟨((g).els).toArray⟩])).run Tryd.prog w = .ok (decide (f = g)) w := by
  rw [run_equalIn_agg w 9999 _ _ _ fm_fields fm_eql, fm_dec]
  have hF : (Tryd.prog.fieldsOf 41).toList = [{ name := "Kind", type := 3, offset := 0, embedded := false, tag := "", pkgPath := "", byteOffset := 0 }, { name := "N", type := 3, offset := 1, embedded := false, tag := "", pkgPath := "", byteOffset := 8 }, { name := "Case", type := 3, offset := 2, embedded := false, tag := "", pkgPath := "", byteOffset := 16 }, { name := "Then", type := 9, offset := 3, embedded := false, tag := "", pkgPath := "", byteOffset := 24 }, { name := "Else", type := 9, offset := 4, embedded := false, tag := "", pkgPath := "", byteOffset := 40 }] := by kernel_rfl
  rw [hF]
  simp [go_sem, Tryd.underlying3, Tryd.underlying9]
  by_cases h1 : f.kind = g.kind <;> by_cases h2 : f.n = g.n <;> by_cases h3 : f.cse = g.cse <;> by_cases h4 : f.thn = g.thn <;> by_cases h5 : f.els = g.els <;> simp [h1, h2, h3, h4, h5]
theorem fm_neq (f g : Fm) (w : World) : (binOp .neq 41 (.agg #[.int .i64 (f).kind, .int .i64 (f).n, .int .i64 (f).cse, .string ⟨((f).thn).toArray⟩, .string ⟨((f).els).toArray⟩]) (.agg #[.int .i64 (g).kind, .int .i64 (g).n, .int .i64 (g).cse, .string ⟨((g).thn).toArray⟩, .string ⟨((g).els).toArray⟩])).run Tryd.prog w = .ok (.bool (!decide (f = g))) w := by
  rw [run_neq_struct, fm_eqIn]; rfl
theorem fm_eq (f g : Fm) (w : World) : (binOp .eql 41 (.agg #[.int .i64 (f).kind, .int .i64 (f).n, .int .i64 (f).cse, .string ⟨((f).thn).toArray⟩, .string ⟨((f).els).toArray⟩]) (.agg #[.int .i64 (g).kind, .int .i64 (g).n, .int .i64 (g).cse, .string ⟨((g).thn).toArray⟩, .string ⟨((g).els).toArray⟩])).run Tryd.prog w = .ok (.bool (decide (f = g))) w := by
  rw [run_eql_struct, fm_eqIn]; rfl
set_option maxHeartbeats 2000000 in
theorem blank_any (f : Fm) (b1 b2 b3 b4 : Bool) (w : World) :
    Calls Tryd.prog 37 #[.agg #[.int .i64 (f).kind, .int .i64 (f).n, .int .i64 (f).cse, .string ⟨((f).thn).toArray⟩, .string ⟨((f).els).toArray⟩], .bool b1, .bool b2, .bool b3, .bool b4] w fun e w' => e = .returned (.bool (blankB f b1 b2 b3 b4)) ∧ Below w.heap.size w w' := by
  generalize hR : blankB f b1 b2 b3 b4 = R
  have HR := Lib.hid hR
  clear hR
  cases b1 <;> cases b2 <;> cases b3 <;> cases b4
  all_goals
    go_enter Tryd.func37, Tryd.ntmps37
    go_wp2
    all_goals
      go_ret
      refine ⟨ret_bool ?_, (Below.refl _ _).alloc (Nat.le_refl _) _⟩
      rw [← HR.out, Bool.eq_iff_iff]; simp [blankB, *]
end Go.Proofs.YtlomkfennnmkdaaDoor
