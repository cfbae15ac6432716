/- walks of rxtree: bare, repeated, group; of slices: Index, Contains -/
import Derived.Test.YtpggnfpjjppbmaaR2
set_option maxRecDepth 100000
namespace Go.Proofs.Ytpggnfpjjppbmaa
open Go.RowKit
def bareV (c : Str) (ng : Bool) (rn : Nat) (lo hi : Int) (lz : Bool) : Bool := decide (c = []) && !ng && decide (rn = 0) && decide (lo = 0) && decide (hi = 0) && !lz
set_option maxHeartbeats 1000000 in
theorem bare_any (k : Int) (c : Str) (ng : Bool) (ra : Option Addr) (rn rc : Nat) (lo hi : Int) (lz : Bool) (ka : Option Addr) (kn kc : Nat) (w : World) :
    Calls Try.prog 65 #[.agg #[.int .i64 k, .string ⟨(c).toArray⟩, .bool ng, .slice ra rn rc, .int .i64 lo, .int .i64 hi, .bool lz, .slice ka kn kc]] w fun e w' => e = .returned (.bool (bareV c ng rn lo hi lz)) ∧ Below w.heap.size w w' := by
  generalize hR : bareV c ng rn lo hi lz = R
  have HR := Lib.hid hR
  clear hR
  have hbw : ∀ o : Obj, Below w.heap.size w (w.alloc o) := fun o => (Below.refl _ _).alloc (Nat.le_refl _) _
  have HBW := Lib.hid hbw
  clear hbw
  cases c <;> cases ng <;> cases lz
  all_goals
    go_enter Try.func65, Try.ntmps65
    go_wp2
    all_goals
      go_ret
      refine ⟨ret_bool ?_, HBW.out _⟩
      rw [← HR.out, Bool.eq_iff_iff]; simp [bareV, *]
theorem repeated_any (k : Int) (w : World) : Calls Try.prog 67 #[.int .i64 k] w fun e w' => e = .returned (.bool (repB k)) ∧ w = w' := by
  generalize hR : repB k = R
  have HR := Lib.hid hR
  clear hR
  go_enter Try.func67, Try.ntmps67
  go_wp2
  all_goals
    go_ret
    refine ⟨ret_bool ?_, rfl⟩
    rw [← HR.out, Bool.eq_iff_iff]; clear HR; simp_all [repB]
theorem group_any (k : Int) (w : World) : Calls Try.prog 42 #[.int .i64 k] w fun e w' => e = .returned (.bool (grpB k)) ∧ w = w' := by
  generalize hR : grpB k = R
  have HR := Lib.hid hR
  clear hR
  go_enter Try.func42, Try.ntmps42
  go_wp2
  all_goals
    go_ret
    refine ⟨ret_bool ?_, rfl⟩
    rw [← HR.out, Bool.eq_iff_iff]; clear HR; simp_all [grpB]
def icells (zs : List Int) : List Value := zs.map fun z => .int .i64 z
theorem Sl.int_ {w : World} {B : Nat} {a : Option Addr} {n : Nat} {zs : List Int} (h : Sl w B a 1 n (icells zs)) {k : Nat} {z : Int} (hk : zs[k]? = some z) :
    ∃ b o, a = some ⟨b, o, none⟩ ∧ b < B ∧ w.cell? ⟨b, o + k, none⟩ = some (.int .i64 z) := by
  have hlt := (List.getElem?_eq_some_iff.1 hk).1
  have hn : n = zs.length := by have := h.1; simp [icells] at this; omega
  obtain ⟨b, o, h1, h2, h3⟩ := h.2 (by omega)
  exact ⟨b, o, h1, h2, h3 k _ (by simp [icells, hk])⟩
theorem Sl.int_len {w : World} {B : Nat} {a : Option Addr} {n : Nat} {zs : List Int} (h : Sl w B a 1 n (icells zs)) : n = zs.length := by
  have := h.1; simp [icells] at this; omega
def IdxPost (b : Bool) (e : Ending) : Prop := ∃ r : Int, e = .returned (.int .i64 r) ∧ -1 ≤ r ∧ (decide (0 ≤ r) = b)
theorem Index_any (a : Option Addr) (n c : Nat) (zs : List Int) (v : Int) (w : World) (h : Sl w w.heap.size a 1 n (icells zs)) (hn : n ≤ 100000000) :
    Calls Try.prog 93 #[.slice a n c, .int .i64 v] w fun e w' => IdxPost (zs.contains v) e ∧ w = w' := by
  obtain rfl := h.int_len
  have HSl := Lib.hid h
  clear h
  obtain ⟨R, hR⟩ : ∃ R, zs.contains v = R := ⟨_, rfl⟩
  rw [hR]
  have HR0 : Hid ((zs.drop 0).contains v = R) := Lib.hid hR
  clear hR
  go_enter Try.func93, Try.ntmps93
  go_wp2
  go_loop [8] (fun q => ∃ k : Nat, k ≤ zs.length ∧ q = .int .i64 k ∧ Hid ((zs.drop k).contains v = R)) (fun q => zs.length - (intOf q).toNat)
  case atStart => exact ⟨0, by omega, rfl, HR0⟩
  case round =>
    obtain ⟨k, hk, rfl, HF⟩ := hrel
    clear HR0
    cases hd : zs.drop k with
    | nil =>
      have h2 : zs.length ≤ k := by simpa using hd
      have HE : Hid (R = false) := Lib.hid (by rw [← HF.out, hd]; rfl)
      clear hd HF
      go_wp2
      go_ret
      exact ⟨⟨-1, rfl, by omega, by rw [HE.out]; rfl⟩, rfl⟩
    | cons z r =>
      obtain ⟨h2, h3, hr⟩ := ldrop_cons hd
      have HE : Hid (R = (z :: r).contains v) := Lib.hid (by rw [← HF.out, hd])
      have Hr := Lib.hid hr
      obtain ⟨b, o, rfl, hbB, c0⟩ := HSl.out.int_ h3
      clear hd HF hr h3
      by_cases hz : v = z
      · have hz1 : (v == z) = true := by simpa using hz
        have HZ := Lib.hid hz
        clear hz
        go_wp2
        go_ret
        exact ⟨⟨k, rfl, by omega, by rw [HE.out, HZ.out]; simp⟩, rfl⟩
      · have hz1 : (v == z) = false := by simpa using hz
        have HZ := Lib.hid hz
        clear hz
        go_wp2
        go_round
        case rel => exact ⟨k + 1, by omega, by go_num, Lib.hid (by rw [Hr.out, HE.out, List.contains_cons]; simp [HZ.out])⟩
        case measure => simp [intOf]; omega
theorem Contains_any (a : Option Addr) (n c : Nat) (zs : List Int) (v : Int) (w : World) (h : Sl w w.heap.size a 1 n (icells zs)) (hn : n ≤ 100000000) :
    Calls Try.prog 82 #[.slice a n c, .int .i64 v] w fun e w' => e = .returned (.bool (zs.contains v)) ∧ w = w' := by
  have HSl := Lib.hid h
  clear h
  go_enter Try.func82, Try.ntmps82
  go_wp2_with (go_at_call 93; refine (Index_any _ _ _ zs _ _ HSl.out hn).mono ?_; rintro e w1 ⟨⟨r, rfl, h1, h2⟩, rfl⟩)
  go_ret
  exact ⟨ret_bool (by simp), rfl⟩
end Go.Proofs.Ytpggnfpjjppbmaa
