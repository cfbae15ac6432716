/- walks of slices.Clone of rows, rxtree.Clone -/
import Derived.Test.YtpggnfpjjppbmaaDoorC1
import Derived.Test.YtpggnfpjjppbmaaDoorR5
import Derived.Lib.LazyBuf
set_option maxRecDepth 100000
namespace Go.Proofs.YtpggnfpjjppbmaaDoor
open Go.RowKit
theorem own_slS {w : World} {B : Nat} {e : TypeId} {sz : Nat} {a : Option Addr} {n c : Nat} {xs : List Value} (h : w.ownsRow B e sz (.slice a n c) n xs) : SlS w (fun b => B ≤ b) a sz n xs := by
  refine ⟨(Sl.of_own h).1, fun hn => ?_⟩
  obtain ⟨b, o, e, hlt, hc⟩ := (Sl.of_own h).2 hn
  subst e
  exact ⟨b, o, rfl, (h.lt b rfl).1, hlt, hc⟩
set_option maxHeartbeats 1000000 in
theorem SClone_any (a : Option Addr) (n c : Nat) (rs : List (Str × Str)) (w : World) (h : Sl w w.heap.size a 2 n (rcells rs)) (hn : n ≤ 1000000) :
    Calls Tryd.prog 63 #[.slice a n c] w fun e w' => ∃ a' c', e = .returned (.slice a' n c') ∧ SlS w' (fun b => w.heap.size ≤ b) a' 2 n (rcells rs) ∧ Below w.heap.size w w' := by
  obtain rfl := h.row_len
  obtain ⟨ir, hir⟩ := info_parts row_info
  cases a with
  | none =>
    have h0 : rs = [] := by
      rcases Nat.eq_zero_or_pos rs.length with h0 | h0
      · exact List.eq_nil_of_length_eq_zero h0
      · obtain ⟨b, o, e, _⟩ := h.2 h0; cases e
    subst h0
    have hq : (binOp .eql 22 (.slice none 0 c) (.slice none 0 0)).run Tryd.prog w = .ok (.bool true) w := Go.run_eql_slice_nil w _ _ none 0 c Tryd.underlying22
    go_enter Tryd.func63, Tryd.ntmps63
    go_wp2
    go_ret
    exact ⟨none, 0, rfl, SlS.none_ _ _ _ _, Below.refl _ _⟩
  | some ad =>
    have HS := Lib.hid (h.alloc_self (.cells #[] 42))
    have hq : (binOp .eql 22 (.slice (some ad) rs.length c) (.slice none 0 0)).run Tryd.prog w = .ok (.bool false) w := Go.run_eql_slice_nil w _ _ (some ad) _ c Tryd.underlying22
    clear h
    go_enter Tryd.func63, Tryd.ntmps63
    go_wp2_with (at_builtin; refine wpList_appM w.heap.size 42 rfl _ _ 22 rfl Tryd.underlying22 hir rfl (by decide) rfl (World.ownsRow_made w #[] 0 (Nat.le_refl _) (by simp [maxLen]) rfl) rfl HS.out (rcells_one rs) (by omega) (by omega) (by decide) (by simp) ?_)
    intro v1 w1 ho1 hg1 hb1 _
    obtain ⟨a1, c1, rfl⟩ := own_form ho1
    go_wp2
    go_ret
    refine ⟨a1, c1, by simp, by simpa using own_slS ho1, ((Below.refl _ _).alloc (Nat.le_refl _) _).trans hb1⟩
end Go.Proofs.YtpggnfpjjppbmaaDoor
