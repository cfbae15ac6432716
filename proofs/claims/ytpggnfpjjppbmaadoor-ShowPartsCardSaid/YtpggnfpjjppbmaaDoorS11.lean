/- walks of the references: ref13.bare, repeat -/
import Derived.Test.YtpggnfpjjppbmaaDoorS10
set_option maxRecDepth 100000
namespace Go.Proofs.YtpggnfpjjppbmaaDoor
open Go.RowKit
set_option maxHeartbeats 1000000 in
theorem RBare_any (k : Int) (c : Str) (ng : Bool) (ra : Option Addr) (rn rc : Nat) (lo hi : Int) (lz : Bool) (ka : Option Addr) (kn kc : Nat) (w : World) :
    Calls Tryd.prog 55 #[.agg #[.int .i64 k, .string ⟨(c).toArray⟩, .bool ng, .slice ra rn rc, .int .i64 lo, .int .i64 hi, .bool lz, .slice ka kn kc]] w fun e w' => e = .returned (.bool (bareV c ng rn lo hi lz)) ∧ Below w.heap.size w w' := by
  generalize hR : bareV c ng rn lo hi lz = R
  have HR := Lib.hid hR
  clear hR
  have hbw : ∀ o : Obj, Below w.heap.size w (w.alloc o) := fun o => (Below.refl _ _).alloc (Nat.le_refl _) _
  have HBW := Lib.hid hbw
  clear hbw
  cases c <;> cases ng <;> cases lz
  all_goals
    go_enter Tryd.func55, Tryd.ntmps55
    go_wp2
    all_goals
      go_ret
      refine ⟨ret_bool ?_, HBW.out _⟩
      rw [← HR.out, Bool.eq_iff_iff]; simp [bareV, *]
theorem RBare_eq {k : Int} {c : Str} {ng : Bool} {ra : Option Addr} {rn rc : Nat} {lo hi : Int} {lz : Bool} {ka : Option Addr} {kn kc : Nat} {b : Bool} (w : World) (h : bareV c ng rn lo hi lz = b) :
    Calls Tryd.prog 55 #[.agg #[.int .i64 k, .string ⟨(c).toArray⟩, .bool ng, .slice ra rn rc, .int .i64 lo, .int .i64 hi, .bool lz, .slice ka kn kc]] w fun e w' => e = .returned (.bool b) ∧ Below w.heap.size w w' ∧ ∀ a u, w.cell? a = some u → w'.cell? a = some u := by
  subst h
  exact (RBare_any k c ng ra rn rc lo hi lz ka kn kc w).mono fun _ _ ⟨h1, h2⟩ => ⟨h1, h2, cell_kept h2⟩
def repOk (c : Str) (ng : Bool) (rn : Nat) (lo hi : Int) (ks : List Rx) : Bool := bareV c ng rn 0 0 false && oneB ks && decide (0 ≤ lo ∧ lo ≤ 255 ∧ (hi = -1 ∨ lo ≤ hi ∧ hi ≤ 255))
set_option maxHeartbeats 4000000 in
theorem RRepeat_any (S : Nat → Prop) (K : Int) (c : Str) (ng : Bool) (ra : Option Addr) (rn rc : Nat) (lo hi : Int) (lz : Bool) (ka : Option Addr) (ks : List Rx) (kc : Nat) (w : World)
    (hx : RxSl w S ka ks.length ks) (hkl : ks.length ≤ 1000000) :
    Calls Tryd.prog 57 #[.agg #[.int .i64 K, .string ⟨(c).toArray⟩, .bool ng, .slice ra rn rc, .int .i64 lo, .int .i64 hi, .bool lz, .slice ka ks.length kc]] w fun e w' => e = .returned (.bool (repOk c ng rn lo hi ks)) ∧ Below w.heap.size w w' := by
  generalize hR : repOk c ng rn lo hi ks = R
  have HR := Lib.hid hR
  clear hR
  have hq : ∀ {o : Obj}, Below w.heap.size w (w.alloc o) := (Below.refl _ _).alloc (Nat.le_refl _) _
  have HQ := @Lib.hid _ @hq
  clear hq
  rcases ks with _ | ⟨x, _ | ⟨y, ks⟩⟩
  · have HS : Hid (R = false) := Lib.hid (by rw [← HR.out]; simp [repOk, oneB])
    go_enter Tryd.func57, Tryd.ntmps57
    go_wp2
    go_ret
    exact ⟨ret_bool HS.out.symm, HQ.out⟩
  · by_cases hb : 0 ≤ lo ∧ lo ≤ 255 ∧ (hi = -1 ∨ lo ≤ hi ∧ hi ≤ 255)
    · obtain ⟨xk, xc, xn, xr, xl, xh, xz, xs⟩ := x
      obtain ⟨b, o, _, _, _, _, rfl, _, hbB, _, _, _, q0, _⟩ := hx.cells (m := 0) rfl
      simp only [Nat.zero_mul, Nat.add_zero] at q0
      obtain ⟨bv, hbv⟩ : ∃ bv, bareV c ng rn 0 0 false = bv := ⟨_, rfl⟩
      have HB := Lib.hid hbv
      have HS : Hid (R = (bv && repB xk)) := Lib.hid (by rw [← HR.out]; unfold repOk; rw [hbv, decide_eq_true hb, Bool.and_true]; rfl)
      clear hbv hx
      obtain ⟨g1, g2, g3⟩ := hb
      rcases g3 with rfl | ⟨g3, g4⟩
      all_goals
        cases bv
        all_goals
          go_enter Tryd.func57, Tryd.ntmps57
          go_wp2_with (go_at_call 55; refine (RBare_eq _ HB.out).mono ?_; rintro e w1 ⟨rfl, hb1, _⟩)
          all_goals first
            | (exfalso; omega)
            | (go_ret; refine ⟨ret_bool ?_, HQ.out.trans (hb1.mono (by simp))⟩; rw [HS.out]; first | rfl | (clear HS HR; rw [Bool.eq_iff_iff]; simp_all [repB]))
    · have HS : Hid (R = false) := Lib.hid (by rw [← HR.out]; unfold repOk; rw [decide_eq_false hb, Bool.and_false])
      have hb' : lo < 0 ∨ (0 ≤ lo ∧ 255 < lo) ∨ (0 ≤ lo ∧ lo ≤ 255 ∧ hi ≠ -1 ∧ hi < lo) ∨ (0 ≤ lo ∧ lo ≤ 255 ∧ hi ≠ -1 ∧ lo ≤ hi ∧ 255 < hi) := by omega
      clear hb hx
      rcases hb' with g | ⟨g1, g2⟩ | ⟨g1, g2, g3, g4⟩ | ⟨g1, g2, g3, g4, g5⟩
      · go_enter Tryd.func57, Tryd.ntmps57
        go_wp2
        go_ret
        exact ⟨ret_bool HS.out.symm, HQ.out⟩
      · go_enter Tryd.func57, Tryd.ntmps57
        go_wp2
        go_ret
        exact ⟨ret_bool HS.out.symm, HQ.out⟩
      · have e3 : (hi == -1) = false := by rw [beq_eq_false_iff_ne]; exact g3
        have e4 : (hi != -1) = true := by rw [bne_iff_ne]; exact g3
        have G3 := Lib.hid g3
        clear g3
        go_enter Tryd.func57, Tryd.ntmps57
        go_wp2_with fail
        all_goals first
          | (go_ret; exact ⟨ret_bool HS.out.symm, HQ.out⟩)
          | (exfalso; have := G3.out; omega)
          | (exfalso; have := G3.out; simp_all; omega)
      · have e3 : (hi == -1) = false := by rw [beq_eq_false_iff_ne]; exact g3
        have e4 : (hi != -1) = true := by rw [bne_iff_ne]; exact g3
        have G3 := Lib.hid g3
        clear g3
        go_enter Tryd.func57, Tryd.ntmps57
        go_wp2_with fail
        all_goals first
          | (go_ret; exact ⟨ret_bool HS.out.symm, HQ.out⟩)
          | (exfalso; have := G3.out; omega)
          | (exfalso; have := G3.out; simp_all; omega)
  · have HS : Hid (R = false) := Lib.hid (by rw [← HR.out]; simp [repOk, oneB])
    have e9 : ((ks.length : Int) + 1 + 1 == 1) = false := by rw [beq_eq_false_iff_ne]; omega
    have e8 : ((ks.length : Int) + 1 + 1 != 1) = true := by rw [bne_iff_ne]; omega
    go_enter Tryd.func57, Tryd.ntmps57
    go_wp2_with fail
    all_goals first
      | (exfalso; omega)
      | (go_ret; exact ⟨ret_bool HS.out.symm, HQ.out⟩)
      | go_ways
end Go.Proofs.YtpggnfpjjppbmaaDoor
