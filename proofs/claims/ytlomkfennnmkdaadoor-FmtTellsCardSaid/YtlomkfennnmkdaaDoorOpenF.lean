/- Arguments opened: formats' parts. -/
import Derived.Test.YtlomkfennnmkdaaDoorOpen
import Derived.Test.YtlomkfennnmkdaaDoorFmD
namespace Go.Proofs.YtlomkfennnmkdaaDoor
open Go.ChangeShapes Go.WideShapes Go.RowKit
section
variable {H : Type} {enc : TypeId × Value → H} {w : World} {base : Nat} {spare : Nat → Bool} {held : Bool}
theorem open_fmts {r : Reach} {b0 : Nat} {v : Value} {d : DataW H} {ps : List MemPlace} (hval : Value.okWide Tryd.prog w r b0 22 v) (h : DataW.Trod enc Tryd.prog w 0 spare held 22 v d ps) :
    ∃ (a : Option Addr) (cap : Nat) (xs : List Fm), v = .slice a xs.length cap ∧ xs.length ≤ maxLen ∧ (∀ f ∈ xs, f.thn.length ≤ maxLen ∧ f.els.length ≤ maxLen) ∧ Sl w w.heap.size a 5 xs.length (fcells xs) := by
  obtain ⟨fuel, hf⟩ := h
  rw [open_slice_val Tryd.underlying22 hval] at hf
  obtain ⟨a, cap, xs, h1, h2, h3, h4⟩ := slice_map Fm.cells (fun f => f.thn.length ≤ maxLen ∧ f.els.length ≤ maxLen) Tryd.underlying22 (C := 5) (by kernel_rfl) (by decide) hf (by
    intro n c y _ hc hy
    obtain ⟨ys, m, _, _, _, _, hfs⟩ := DataW.trod_struct fm_fields hy
    match c, hc with
    | [c0, c1, c2, c3, c4], _ =>
      have hF : Tryd.prog.fieldsOf 41 = #[{ name := "Kind", type := 3, offset := 0, embedded := false, tag := "", pkgPath := "", byteOffset := 0 }, { name := "N", type := 3, offset := 1, embedded := false, tag := "", pkgPath := "", byteOffset := 8 }, { name := "Case", type := 3, offset := 2, embedded := false, tag := "", pkgPath := "", byteOffset := 16 }, { name := "Then", type := 9, offset := 3, embedded := false, tag := "", pkgPath := "", byteOffset := 24 }, { name := "Else", type := 9, offset := 4, embedded := false, tag := "", pkgPath := "", byteOffset := 40 }] := by kernel_rfl
      rw [hF] at hfs
      have k0 : Tryd.prog.cellsOf 3 = 1 := by kernel_rfl
      have k1 : Tryd.prog.cellsOf 9 = 1 := by kernel_rfl
      have f0 := hfs 0 { name := "Kind", type := 3, offset := 0, embedded := false, tag := "", pkgPath := "", byteOffset := 0 } rfl
      have f1 := hfs 1 { name := "N", type := 3, offset := 1, embedded := false, tag := "", pkgPath := "", byteOffset := 8 } rfl
      have f2 := hfs 2 { name := "Case", type := 3, offset := 2, embedded := false, tag := "", pkgPath := "", byteOffset := 16 } rfl
      have f3 := hfs 3 { name := "Then", type := 9, offset := 3, embedded := false, tag := "", pkgPath := "", byteOffset := 24 } rfl
      have f4 := hfs 4 { name := "Else", type := 9, offset := 4, embedded := false, tag := "", pkgPath := "", byteOffset := 40 } rfl
      rw [k0] at f0 f1 f2
      rw [k1] at f3 f4
      simp only [List.drop, List.take] at f0 f1 f2 f3 f4
      have hys : ys.length = 5 := by have h6 := ‹ys.length = _›; rw [hF] at h6; exact h6
      rw [List.getElem?_eq_getElem (by omega)] at f0 f1 f2 f3 f4
      obtain ⟨n0, e0, _⟩ := DataW.trod_int Tryd.underlying3 f0
      obtain ⟨n1, e1, _⟩ := DataW.trod_int Tryd.underlying3 f1
      obtain ⟨n2, e2, _⟩ := DataW.trod_int Tryd.underlying3 f2
      obtain ⟨s3, e3, _, h3⟩ := DataW.trod_string Tryd.underlying9 f3
      obtain ⟨s4, e4, _, h4⟩ := DataW.trod_string Tryd.underlying9 f4
      injection e0 with e0; injection e1 with e1; injection e2 with e2; injection e3 with e3; injection e4 with e4
      subst e0 e1 e2 e3 e4
      exact ⟨⟨n0, n1, n2, s3.data.toList, s4.data.toList⟩, by simp [Fm.cells], by simpa using h3, by simpa using h4⟩)
  injection h1 with h1
  exact ⟨a, cap, xs, h1, h2, h3, h4⟩
end
end Go.Proofs.YtlomkfennnmkdaaDoor
