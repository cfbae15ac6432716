/- walk of rxset.Named -/
import Derived.Test.YtemophfieihgaaaV2
set_option maxRecDepth 100000
namespace Go.Proofs.Ytemophfieihgaaa
open Go.RowKit
def namedL (c : UInt8) : List Row := if c = 100 then [([48], [57])] else if c = 119 then [([48], [57]), ([65], [90]), ([95], [95]), ([97], [122])] else if c = 115 then [([9], [13]), ([32], [32])] else []
def namedB (c : UInt8) : Bool := c == 100 || c == 119 || c == 115
def NamedPost (L : List Row) (b : Bool) (w : World) (e : Ending) (w' : World) : Prop :=
  ∃ a k, e = .returned (.tuple #[.slice a L.length k, .bool b]) ∧ SlS w' (fun x => w.heap.size ≤ x) a 2 L.length (rcells L) ∧ Below w.heap.size w w' ∧ (b = true → ∃ x, a = some x)
theorem lit_slS {w : World} {B : Nat} {n sz : Nat} {cs : Array Value} {t : TypeId} (hB : B ≤ w.heap.size) (hl : cs.toList.length = n * sz) (h : Sl (w.alloc (.cells cs t)) (w.alloc (.cells cs t)).heap.size (some ⟨w.heap.size, 0, none⟩) sz n cs.toList) :
    SlS (w.alloc (.cells cs t)) (fun x => B ≤ x) (some ⟨w.heap.size, 0, none⟩) sz n cs.toList :=
  ⟨hl, fun hn => by
    obtain ⟨b, o, h1, h2, h3⟩ := h.2 hn
    injection h1 with h1
    injection h1 with h1 h4
    subst h1 h4
    exact ⟨_, _, rfl, hB, h2, h3⟩⟩
set_option maxHeartbeats 400000 in
theorem Named_any (c : UInt8) (w : World) : Calls Try.prog 47 #[.int .u8 c.toNat] w fun e w' => NamedPost (namedL c) (namedB c) w e w' := by
  have hb := (Below.refl w.heap.size w).alloc (Nat.le_refl _) (.cells #[.string ⟨(([48] : Str)).toArray⟩, .string ⟨(([57] : Str)).toArray⟩] 47)
  by_cases h1 : c = 100
  · subst h1
    show Calls Try.prog 47 #[.int .u8 (100 : Nat)] w fun e w' => NamedPost [([48], [57])] true w e w'
    go_enter Try.func47, Try.ntmps47
    go_wp2
    go_ret2
    refine ⟨_, _, rfl, ?_, hb.alloc (by simp) _, fun _ => ⟨_, rfl⟩⟩
    have hs := lit_slS (B := w.heap.size) (w := w.alloc (.cells #[.string ⟨(([48] : Str)).toArray⟩, .string ⟨(([57] : Str)).toArray⟩] 47)) (t := 47) (cs := #[.string ⟨(([48] : Str)).toArray⟩, .string ⟨(([57] : Str)).toArray⟩]) (n := 1) (sz := 2) (by simp) rfl (Sl.lit (heap_alloc_new _ _) rfl)
    rw [World.size_alloc] at hs
    exact hs
  by_cases h2 : c = 119
  · subst h2
    show Calls Try.prog 47 #[.int .u8 (119 : Nat)] w fun e w' => NamedPost [([48], [57]), ([65], [90]), ([95], [95]), ([97], [122])] true w e w'
    go_enter Try.func47, Try.ntmps47
    go_wp2
    go_ret2
    refine ⟨_, _, rfl, ?_, hb.alloc (by simp) _, fun _ => ⟨_, rfl⟩⟩
    have hs := lit_slS (B := w.heap.size) (w := w.alloc (.cells #[.string ⟨(([48] : Str)).toArray⟩, .string ⟨(([57] : Str)).toArray⟩] 47)) (t := 47) (cs := #[.string ⟨(([48] : Str)).toArray⟩, .string ⟨(([57] : Str)).toArray⟩, .string ⟨(([65] : Str)).toArray⟩, .string ⟨(([90] : Str)).toArray⟩, .string ⟨(([95] : Str)).toArray⟩, .string ⟨(([95] : Str)).toArray⟩, .string ⟨(([97] : Str)).toArray⟩, .string ⟨(([122] : Str)).toArray⟩]) (n := 4) (sz := 2) (by simp) rfl (Sl.lit (heap_alloc_new _ _) rfl)
    rw [World.size_alloc] at hs
    exact hs
  by_cases h3 : c = 115
  · subst h3
    show Calls Try.prog 47 #[.int .u8 (115 : Nat)] w fun e w' => NamedPost [([9], [13]), ([32], [32])] true w e w'
    go_enter Try.func47, Try.ntmps47
    go_wp2
    go_ret2
    refine ⟨_, _, rfl, ?_, hb.alloc (by simp) _, fun _ => ⟨_, rfl⟩⟩
    have hs := lit_slS (B := w.heap.size) (w := w.alloc (.cells #[.string ⟨(([48] : Str)).toArray⟩, .string ⟨(([57] : Str)).toArray⟩] 47)) (t := 47) (cs := #[.string ⟨(([9] : Str)).toArray⟩, .string ⟨(([13] : Str)).toArray⟩, .string ⟨(([32] : Str)).toArray⟩, .string ⟨(([32] : Str)).toArray⟩]) (n := 2) (sz := 2) (by simp) rfl (Sl.lit (heap_alloc_new _ _) rfl)
    rw [World.size_alloc] at hs
    exact hs
  · have hL : namedL c = [] := by simp [namedL, h1, h2, h3]
    have hB : namedB c = false := by simp [namedB, h1, h2, h3]
    have n1 : c.toNat ≠ 100 := fun e => h1 (UInt8.toNat_inj.1 e)
    have n2 : c.toNat ≠ 119 := fun e => h2 (UInt8.toNat_inj.1 e)
    have n3 : c.toNat ≠ 115 := fun e => h3 (UInt8.toNat_inj.1 e)
    rw [hL, hB]
    clear hL hB h1 h2 h3
    go_enter Try.func47, Try.ntmps47
    go_wp2
    go_ret2
    exact ⟨none, 0, rfl, SlS.none_ _ _ _ _, hb, fun h => by cases h⟩
end Go.Proofs.Ytemophfieihgaaa
