/- The order of rows; walks of cmp.Compare, cmp.Or, the comparison of rows. -/
import Derived.Test.YtemophfieihgaaaR2
import Derived.Test.YtemophfieihgaaaExt
import Derived.StillTailTactics
set_option maxRecDepth 100000
namespace Go.Proofs.Ytemophfieihgaaa
open Go.RowKit
theorem less_irrefl : ∀ a : Str, Op.bytesLess a a = false
  | [] => rfl
  | c :: r => by simp [Op.bytesLess, less_irrefl r]
theorem less_trans : ∀ {a b c : Str}, Op.bytesLess a b = true → Op.bytesLess b c = true → Op.bytesLess a c = true
  | _, [], _, h, _ => by simp [Op.bytesLess] at h
  | _, _ :: _, [], _, h => by simp [Op.bytesLess] at h
  | [], _ :: _, _ :: _, _, _ => rfl
  | x :: a, y :: b, z :: c, h1, h2 => by
    simp only [Op.bytesLess, Bool.or_eq_true, Bool.and_eq_true, decide_eq_true_eq, beq_iff_eq] at h1 h2 ⊢
    rcases h1 with h1 | ⟨rfl, h1⟩ <;> rcases h2 with h2 | ⟨rfl, h2⟩
    · exact .inl (UInt8.lt_trans h1 h2)
    · exact .inl h1
    · exact .inl h2
    · exact .inr ⟨rfl, less_trans h1 h2⟩
theorem less_total : ∀ a b : Str, Op.bytesLess a b = true ∨ a = b ∨ Op.bytesLess b a = true
  | [], [] => .inr (.inl rfl)
  | [], _ :: _ => .inl rfl
  | _ :: _, [] => .inr (.inr rfl)
  | x :: a, y :: b => by
    simp only [Op.bytesLess, Bool.or_eq_true, Bool.and_eq_true, decide_eq_true_eq, beq_iff_eq]
    rcases Nat.lt_trichotomy x.toNat y.toNat with h | h | h
    · exact .inl (.inl (UInt8.lt_iff_toNat_lt.2 h))
    · obtain rfl := UInt8.toNat_inj.1 h
      rcases less_total a b with h | rfl | h
      · exact .inl (.inr ⟨rfl, h⟩)
      · exact .inr (.inl rfl)
      · exact .inr (.inr (.inr ⟨rfl, h⟩))
    · exact .inr (.inr (.inl (UInt8.lt_iff_toNat_lt.2 h)))
theorem less_asymm {a b : Str} (h : Op.bytesLess a b = true) : Op.bytesLess b a = false := by
  cases h2 : Op.bytesLess b a with
  | false => rfl
  | true => have := less_trans h h2; rw [less_irrefl] at this; cases this
def cmpS (a b : Str) : Int := if Op.bytesLess a b = true then -1 else if a = b then 0 else 1
def cmpR (a b : Str × Str) : Int := if cmpS a.1 b.1 = 0 then cmpS a.2 b.2 else cmpS a.1 b.1
theorem cmpS_cases (a b : Str) : (cmpS a b = -1 ∧ Op.bytesLess a b = true) ∨ (cmpS a b = 0 ∧ a = b) ∨ (cmpS a b = 1 ∧ Op.bytesLess b a = true) := by
  unfold cmpS
  rcases less_total a b with h | rfl | h
  · rw [if_pos h]; exact .inl ⟨rfl, h⟩
  · rw [if_neg (by rw [less_irrefl]; simp), if_pos rfl]; exact .inr (.inl ⟨rfl, rfl⟩)
  · have h2 := less_asymm h
    rw [if_neg (by rw [h2]; simp), if_neg (by rintro rfl; rw [less_irrefl] at h; cases h)]; exact .inr (.inr ⟨rfl, h⟩)
theorem isNaN_any (a : Str) (w : World) : Calls Try.prog 64 #[.string ⟨(a).toArray⟩] w fun e w' => e = .returned (.bool false) ∧ w = w' := by
  go_enter Try.func64, Try.ntmps64
  go_wp2
  go_ret
  exact ⟨ret_bool (by simp), rfl⟩
theorem Compare_any (a b : Str) (w : World) : Calls Try.prog 60 #[.string ⟨(a).toArray⟩, .string ⟨(b).toArray⟩] w fun e w' => e = .returned (.int .i64 (cmpS a b)) ∧ w = w' := by
  have hc := Lib.hid (cmpS_cases a b)
  generalize hR : cmpS a b = R
  have HR := Lib.hid hR
  clear hR
  rcases less_total a b with h | rfl | h
  · have HE : Hid (R = -1) := Lib.hid (by rw [← HR.out]; unfold cmpS; rw [if_pos h])
    go_enter Try.func60, Try.ntmps60
    go_wp2_with (go_at_call 64; refine (isNaN_any _ _).mono ?_; rintro e w1 ⟨rfl, rfl⟩)
    go_ret
    exact ⟨ret_int HE.out.symm, rfl⟩
  · have HE : Hid (R = 0) := Lib.hid (by rw [← HR.out]; unfold cmpS; rw [if_neg (by rw [less_irrefl]; simp), if_pos rfl])
    have h1 := less_irrefl a
    have h2 : leS a a = true := by simp [leS]
    go_enter Try.func60, Try.ntmps60
    go_wp2_with (go_at_call 64; refine (isNaN_any _ _).mono ?_; rintro e w1 ⟨rfl, rfl⟩)
    go_ret
    exact ⟨ret_int HE.out.symm, rfl⟩
  · have h2 := less_asymm h
    have hne : a ≠ b := by rintro rfl; rw [less_irrefl] at h; cases h
    have HE : Hid (R = 1) := Lib.hid (by rw [← HR.out]; unfold cmpS; rw [if_neg (by rw [h2]; simp), if_neg hne])
    have h3 : leS a b = false := by simp [leS, h2, hne]
    have h4 : (a == b) = false := by simpa using hne
    go_enter Try.func60, Try.ntmps60
    go_wp2_with (go_at_call 64; refine (isNaN_any _ _).mono ?_; rintro e w1 ⟨rfl, rfl⟩)
    go_ret
    exact ⟨ret_int HE.out.symm, rfl⟩
def OrRel (a b : Int) (w : World) (q : Value) (wr : World) : Prop := wr = w ∧ (q = .int .i64 0 ∨ (q = .int .i64 1 ∧ a = 0) ∨ (q = .int .i64 2 ∧ a = 0 ∧ b = 0))
theorem Or_any (a b : Int) (g c : Nat) (w : World) (h0 : w.cell? ⟨g, 0, none⟩ = some (.int .i64 a)) (h1 : w.cell? ⟨g, 1, none⟩ = some (.int .i64 b)) :
    Calls Try.prog 59 #[.slice (some ⟨g, 0, none⟩) 2 c] w fun e w' => e = .returned (.int .i64 (if a = 0 then b else a)) ∧ w = w' := by
  go_enter Try.func59, Try.ntmps59
  by_cases ha : a = 0
  · subst ha
    by_cases hb : b = 0
    · subst hb
      go_wp2
      go_loopw [8] (fun q wr => OrRel 0 0 w q wr) (fun q _ => 2 - (intOf q).toNat)
      case atStart => exact ⟨rfl, .inl rfl⟩
      case round =>
        obtain ⟨rfl, rfl | ⟨rfl, _⟩ | ⟨rfl, _⟩⟩ := hrel
        · go_wp2
          go_roundw
          case rel => exact ⟨rfl, .inr (.inl ⟨rfl, rfl⟩)⟩
          case measure => simp [intOf]
        · go_wp2
          go_roundw
          case rel => exact ⟨rfl, .inr (.inr ⟨rfl, rfl, rfl⟩)⟩
          case measure => simp [intOf]
        · go_wp2
          go_ret
          exact ⟨rfl, rfl⟩
    · have hbb : (b == 0) = false := by simpa using hb
      have hbb' : (b != 0) = true := by simpa using hb
      have HB := Lib.hid hb
      clear hb
      go_wp2
      go_loopw [8] (fun q wr => OrRel 0 b w q wr) (fun q _ => 2 - (intOf q).toNat)
      case atStart => exact ⟨rfl, .inl rfl⟩
      case round =>
        obtain ⟨rfl, rfl | ⟨rfl, _⟩ | ⟨rfl, _, hx⟩⟩ := hrel
        · go_wp2
          go_roundw
          case rel => exact ⟨rfl, .inr (.inl ⟨rfl, rfl⟩)⟩
          case measure => simp [intOf]
        · go_wp2
          go_ret
          exact ⟨ret_int (by simp), rfl⟩
        · exact absurd hx HB.out
  · have haa : (a == 0) = false := by simpa using ha
    have haa' : (a != 0) = true := by simpa using ha
    have HA := Lib.hid ha
    clear ha
    go_wp2
    go_loopw [8] (fun q wr => OrRel a b w q wr) (fun q _ => 2 - (intOf q).toNat)
    case atStart => exact ⟨rfl, .inl rfl⟩
    case round =>
      obtain ⟨rfl, rfl | ⟨rfl, hx⟩ | ⟨rfl, hx, _⟩⟩ := hrel
      · go_wp2
        go_ret
        exact ⟨ret_int (by first | rfl | rw [if_neg HA.out]), rfl⟩
      · exact absurd hx HA.out
      · exact absurd hx HA.out
theorem cmpU_any (a b : Str × Str) (w : World) :
    Calls Try.prog 58 #[.agg #[.string ⟨(a.1).toArray⟩, .string ⟨(a.2).toArray⟩], .agg #[.string ⟨(b.1).toArray⟩, .string ⟨(b.2).toArray⟩]] w fun e w' => e = .returned (.int .i64 (cmpR a b)) ∧ Below w.heap.size w w' := by
  obtain ⟨a1, a2⟩ := a
  obtain ⟨b1, b2⟩ := b
  generalize hR : cmpR (a1, a2) (b1, b2) = R
  have HR := Lib.hid hR
  clear hR
  obtain ⟨W, hW⟩ : ∃ W, W = (w.alloc (.cells #[.string ⟨(a1).toArray⟩, .string ⟨(a2).toArray⟩] 47)).alloc (.cells #[.string ⟨(b1).toArray⟩, .string ⟨(b2).toArray⟩] 47) := ⟨_, rfl⟩
  have hb0 : Below w.heap.size w W := by rw [hW]; exact ((Below.refl _ _).alloc (Nat.le_refl _) _).alloc (by simp) _
  have d0 : W.cell? ⟨w.heap.size, 0, none⟩ = some (.string ⟨(a1).toArray⟩) := by rw [hW]; simp
  have d1 : W.cell? ⟨w.heap.size, 1, none⟩ = some (.string ⟨(a2).toArray⟩) := by rw [hW]; simp
  have d2 : W.cell? ⟨w.heap.size + 1, 0, none⟩ = some (.string ⟨(b1).toArray⟩) := by rw [hW]; simp
  have d3 : W.cell? ⟨w.heap.size + 1, 1, none⟩ = some (.string ⟨(b2).toArray⟩) := by rw [hW]; simp
  have HC1 : Hid (∀ w, Calls Try.prog 60 #[.string ⟨(a1).toArray⟩, .string ⟨(b1).toArray⟩] w fun e w' => e = .returned (.int .i64 (cmpS a1 b1)) ∧ w' = w) := Lib.hid (fun w => (Compare_any a1 b1 w).mono fun _ _ ⟨h1, h2⟩ => ⟨h1, h2.symm⟩)
  have HC2 : Hid (∀ w, Calls Try.prog 60 #[.string ⟨(a2).toArray⟩, .string ⟨(b2).toArray⟩] w fun e w' => e = .returned (.int .i64 (cmpS a2 b2)) ∧ w' = w) := Lib.hid (fun w => (Compare_any a2 b2 w).mono fun _ _ ⟨h1, h2⟩ => ⟨h1, h2.symm⟩)
  generalize hc1 : cmpS a1 b1 = c1 at *
  generalize hc2 : cmpS a2 b2 = c2 at *
  have HRR : Hid (R = if c1 = 0 then c2 else c1) := Lib.hid (by rw [← HR.out]; unfold cmpR; rw [← hc1, ← hc2])
  clear hc1 hc2 HR
  go_enter Try.func58, Try.ntmps58
  go_wp2
  rw [← hW]
  clear hW
  go_still_tail 10, (by kernel_rfl)
  still_call (HC1.out _)
  repeat still_step
  still_call (HC2.out _)
  repeat still_step
  try refine wpStill_nil ?_
  change wpList _ _ _ _ _ W.drew
  have hs0 := heap_alloc_new W.drew (.cells #[.int .i64 c1, .int .i64 c2] 3)
  have z0 : (W.drew.alloc (.cells #[.int .i64 c1, .int .i64 c2] 3)).cell? ⟨W.heap.size, 0, none⟩ = some (.int .i64 c1) := by show (W.drew.alloc _).cell? ⟨W.drew.heap.size, 0, none⟩ = _; rw [Lib.cell_of_heap hs0]; rfl
  have z1 : (W.drew.alloc (.cells #[.int .i64 c1, .int .i64 c2] 3)).cell? ⟨W.heap.size, 1, none⟩ = some (.int .i64 c2) := by show (W.drew.alloc _).cell? ⟨W.drew.heap.size, 1, none⟩ = _; rw [Lib.cell_of_heap hs0]; rfl
  go_wp2_with (go_at_call 59; refine (Or_any c1 c2 _ _ _ z0 z1).mono ?_; rintro e w1 ⟨rfl, rfl⟩; rw [← HRR.out])
  go_ret
  exact ⟨rfl, (hb0.drew).alloc hb0.size _⟩
end Go.Proofs.Ytemophfieihgaaa
