/- walk of rxtree.fields -/
import Derived.Test.YtemophfieihgaaaR4
set_option maxRecDepth 100000
namespace Go.Proofs.Ytemophfieihgaaa
open Go.RowKit
namespace Rx
/-- All that a tree has is of a size that a machine bears. -/
def small1 : Rx → Prop
  | mk _ c _ rs _ _ _ ks => c.length ≤ 1000000 ∧ rs.length ≤ 1000000 ∧ (∀ r ∈ rs, r.1.length ≤ 1000000 ∧ r.2.length ≤ 1000000) ∧ ks.length ≤ 1000000
mutual
def small : Rx → Prop
  | mk k c ng rs lo hi lz ks => small1 (mk k c ng rs lo hi lz ks) ∧ smallL ks
def smallL : List Rx → Prop
  | [] => True
  | x :: r => small x ∧ smallL r
end
end Rx
theorem smallL_mem : ∀ {ks : List Rx} {x : Rx}, Rx.smallL ks → x ∈ ks → x.small
  | [], _, _, h => by simp at h
  | y :: r, x, hs, h => by
    simp only [Rx.smallL] at hs
    rcases List.mem_cons.1 h with rfl | h
    · exact hs.1
    · exact smallL_mem hs.2 h
theorem bareB_eq (k : Int) (c : Str) (ng : Bool) (rs : List (Str × Str)) (lo hi : Int) (lz : Bool) (ks : List Rx) : bareB (.mk k c ng rs lo hi lz ks) = bareV c ng rs.length lo hi lz := by
  show (decide (c = []) && !ng && decide (rs = []) && decide (lo = 0) && decide (hi = 0) && !lz) = _
  rw [Bool.eq_iff_iff]; simp [bareV]
def nilB (ks : List Rx) : Bool := match ks with | [] => true | _ => false
end Go.Proofs.Ytemophfieihgaaa
