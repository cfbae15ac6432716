/- rxset.Union, told plainly. -/
import Derived.Test.YtemophfieihgaaaStM
import Derived.Test.YtemophfieihgaaaRxM
set_option maxRecDepth 100000
namespace Go.Proofs.Ytemophfieihgaaa
def mxS (a b : Str) : Str := if Op.bytesLess a b = true then b else a
def mrgS (out : List Row) (r : Row) : List Row := match out.getLast? with
  | none => [r]
  | some q => if leS r.1 q.2 = true then out.dropLast ++ [(q.1, mxS q.2 r.2)] else out ++ [r]
def mrgL (ss : List Row) : List Row := ss.foldl mrgS []
def filR (rs : List Row) : List Row := rs.filter rowB
def unionM (rs : List Row) : List Row := mrgL (stL (filR rs))
theorem mrgS_nil (r : Row) : mrgS [] r = [r] := rfl
theorem mrgS_le {B : List Row} {q r : Row} (h : leS r.1 q.2 = true) : mrgS (B ++ [q]) r = B ++ [(q.1, mxS q.2 r.2)] := by
  unfold mrgS; rw [List.getLast?_concat]; simp [h]
theorem mrgS_gt {B : List Row} {q r : Row} (h : leS r.1 q.2 = false) : mrgS (B ++ [q]) r = B ++ [q] ++ [r] := by
  unfold mrgS; rw [List.getLast?_concat]; simp [h]
theorem mrgL_take {ss : List Row} {i : Nat} {r : Row} (h : ss[i]? = some r) : mrgL (ss.take (i + 1)) = mrgS (mrgL (ss.take i)) r := by
  unfold mrgL; rw [List.take_add_one, h, List.foldl_append]; rfl
theorem mrgS_len (out : List Row) (r : Row) : (mrgS out r).length ≤ out.length + 1 := by
  unfold mrgS
  split
  · simp
  · rename_i q hq
    have : out ≠ [] := by rintro rfl; simp at hq
    have := List.length_pos_iff.2 this
    split <;> simp <;> omega
theorem mrgL_len (ss : List Row) : (mrgL ss).length ≤ ss.length := by
  have key : ∀ (l out : List Row), (l.foldl mrgS out).length ≤ out.length + l.length := by
    intro l
    induction l with
    | nil => intro out; simp
    | cons r l ih => intro out; have h1 := ih (mrgS out r); have h2 := mrgS_len out r; simp only [List.foldl_cons, List.length_cons]; omega
  simpa [mrgL] using key ss []
theorem filR_take {rs : List Row} {i : Nat} {r : Row} (h : rs[i]? = some r) : filR (rs.take (i + 1)) = filR (rs.take i) ++ (if rowB r = true then [r] else []) := by
  unfold filR; rw [List.take_add_one, h, List.filter_append]
  cases hr : rowB r <;> simp [hr]
theorem filR_len (rs : List Row) : (filR rs).length ≤ rs.length := List.length_filter_le _ _
theorem stL_len (rs : List Row) : (stL rs).length = rs.length := by unfold stL; rw [stC_len, stA_len]
end Go.Proofs.Ytemophfieihgaaa
