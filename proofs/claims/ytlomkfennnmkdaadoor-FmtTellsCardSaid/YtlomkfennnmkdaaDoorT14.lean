/- walks of the statements' own awake -/
import Derived.Test.YtlomkfennnmkdaaDoorT12
import Derived.Test.YtlomkfennnmkdaaDoorT13
namespace Go.Proofs.YtlomkfennnmkdaaDoor
open Go.RowKit
theorem Read_some {l r : Str} {i : Int} {fs : List Fm} (w : World) (h0 : 0 ≤ i) (h1 : i ≤ l.length) (hs : l.length ≤ 700000) (hR : readX (l.drop i.toNat) [] [] = some (fs, r)) :
    Calls Tryd.prog 15 #[.string ⟨(l).toArray⟩, .int .i64 i] w fun e w' => Below w.heap.size w w' ∧ ∃ (a : Option Addr) (c j : Nat), e = .returned (.tuple #[.slice a fs.length c, .int .i64 j, .bool true]) ∧ Sl w' w'.heap.size a 5 fs.length (fcells fs) ∧ i ≤ j ∧ j < l.length ∧ l.drop j = r ∧ fs.length ≤ l.length ∧ lenOk l.length fs := by
  obtain ⟨i, rfl⟩ := Int.eq_ofNat_of_zero_le h0
  refine (Read_any l i w (by omega) hs).mono ?_
  rintro e w1 ⟨hb, hp⟩
  rw [Int.toNat_natCast] at hR
  rw [hR] at hp
  obtain ⟨a, c, j, h2, h3, h4, h5⟩ := hp
  exact ⟨hb, a, c, j, h2, h3, by omega, h5⟩
theorem Read_none {l : Str} {i : Int} (w : World) (h0 : 0 ≤ i) (h1 : i ≤ l.length) (hs : l.length ≤ 700000) (hR : readX (l.drop i.toNat) [] [] = none) :
    Calls Tryd.prog 15 #[.string ⟨(l).toArray⟩, .int .i64 i] w fun e w' => Below w.heap.size w w' ∧ e = .returned (.tuple #[.slice none 0 0, .int .i64 0, .bool false]) := by
  obtain ⟨i, rfl⟩ := Int.eq_ofNat_of_zero_le h0
  refine (Read_any l i w (by omega) hs).mono ?_
  rintro e w1 ⟨hb, hp⟩
  rw [Int.toNat_natCast] at hR
  rw [hR] at hp
  exact ⟨hb, hp⟩
theorem awake_read : readX [97, 36, 49, 47, 105] [] [] = some ([⟨0, 0, 0, [97], []⟩, ⟨1, 1, 0, [], []⟩], [47, 105]) := by decide +kernel
theorem awake_apply : applyF [⟨3, 1, 0, [120], []⟩] [[97, 98], [98]] = [120] := by decide +kernel
set_option maxHeartbeats 4000000 in
theorem awake_any (w : World) : Calls Tryd.prog 8 #[] w fun e w' => e = .returned (.bool true) ∧ Below w.heap.size w w' := by
  have q0 : ∀ w, (binOp .eql 41 (.agg #[.int .i64 0, .int .i64 0, .int .i64 0, .string ⟨([97]).toArray⟩, .string ⟨([]).toArray⟩]) (.agg #[.int .i64 0, .int .i64 0, .int .i64 0, .string ⟨([97]).toArray⟩, .string ⟨([]).toArray⟩])).run Tryd.prog w = .ok (.bool true) w := fun w => fm_eq ⟨0, 0, 0, [97], []⟩ ⟨0, 0, 0, [97], []⟩ w
  have q1 : ∀ w, (binOp .eql 41 (.agg #[.int .i64 1, .int .i64 1, .int .i64 0, .string ⟨([]).toArray⟩, .string ⟨([]).toArray⟩]) (.agg #[.int .i64 1, .int .i64 1, .int .i64 0, .string ⟨([]).toArray⟩, .string ⟨([]).toArray⟩])).run Tryd.prog w = .ok (.bool true) w := fun w => fm_eq ⟨1, 1, 0, [], []⟩ ⟨1, 1, 0, [], []⟩ w
  go_enter Tryd.func8, Tryd.ntmps8
  go_wp2_with (go_at_call 15; refine (Read_some (l := [97, 36, 49, 47, 105]) (i := 0) _ (by decide) (by decide) (by decide) awake_read).mono ?_)
  rintro e w1 ⟨hb1, a, c, j, rfl, hsl, hj0, hj1, hj2, _, _⟩
  have hj : j = 3 := by
    have := congrArg List.length hj2
    simp at this; omega
  subst hj
  clear hj0 hj1 hj2
  have hB1 := hb1.size
  have h1 := Sl.lit (w := (w1.alloc (.cells #[.int .i64 3, .int .i64 1, .int .i64 0, .string ⟨([120]).toArray⟩, .string ⟨([]).toArray⟩] 41)).alloc (.cells #[.string ⟨([97, 98]).toArray⟩, .string ⟨([98]).toArray⟩] 9)) (g := w1.heap.size) (sz := 5) (n := 1) (by rw [Below.heap_alloc _ _ _ (by simp)]; exact heap_alloc_new w1 _) rfl
  have h2 := Sl.lit (w := (w1.alloc (.cells #[.int .i64 3, .int .i64 1, .int .i64 0, .string ⟨([120]).toArray⟩, .string ⟨([]).toArray⟩] 41)).alloc (.cells #[.string ⟨([97, 98]).toArray⟩, .string ⟨([98]).toArray⟩] 9)) (g := w1.heap.size + 1) (sz := 1) (n := 2) (by have := heap_alloc_new (w1.alloc (.cells #[.int .i64 3, .int .i64 1, .int .i64 0, .string ⟨([120]).toArray⟩, .string ⟨([]).toArray⟩] 41)) (.cells #[.string ⟨([97, 98]).toArray⟩, .string ⟨([98]).toArray⟩] 9); rw [World.size_alloc] at this; exact this) rfl
  have H1 := Lib.hid h1
  have H2 := Lib.hid h2
  have HSL := Lib.hid hsl
  clear h1 h2 hsl
  go_wp2_with (go_at_call 13; refine (Apply_any _ _ _ _ _ 2 [⟨3, 1, 0, [120], []⟩] [[97, 98], [98]] _ H1.out H2.out (by decide) (by decide) (by decide) (by decide) (by decide)).mono ?_)
  rintro e w2 ⟨rfl, hb2⟩
  rw [awake_apply]
  have hb12 : Below w1.heap.size w1 w2 := (((Below.refl _ _).alloc (Nat.le_refl _) _).alloc (by simp) _).trans (hb2.mono (by simp; omega))
  obtain ⟨b, o, rfl, hbB, c0, c1, c2, c3, c4⟩ := (HSL.out.keep hb12).fm (k := 0) rfl
  obtain ⟨b', o', hab, _, d0, d1, d2, d3, d4⟩ := (HSL.out.keep hb12).fm (k := 1) rfl
  obtain ⟨rfl, rfl⟩ : b = b' ∧ o = o' := by simpa using hab
  simp only [Nat.zero_mul, Nat.add_zero, Nat.one_mul] at c0 c1 c2 c3 c4 d0 d1 d2 d3 d4
  clear hab
  go_wp2
  go_ret
  exact ⟨rfl, hb1.trans (hb12.mono hB1)⟩
end Go.Proofs.YtlomkfennnmkdaaDoor
