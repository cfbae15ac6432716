/- Arguments opened: a regular expression's tree. -/
import Derived.Test.YtpggnfpjjppbmaaDoorOpen
import Derived.Test.YtpggnfpjjppbmaaDoorS7
set_option maxRecDepth 100000
namespace Go.Proofs.YtpggnfpjjppbmaaDoor
open Go.ChangeShapes Go.WideShapes Go.RowKit
theorem rx_fields : Tryd.prog.underlying 25 = some (.struct (Tryd.prog.fieldsOf 25)) := by kernel_rfl
theorem row_fields : Tryd.prog.underlying 42 = some (.struct (Tryd.prog.fieldsOf 42)) := by kernel_rfl
theorem rx_fs : Tryd.prog.fieldsOf 25 = #[{ name := "Kind", type := 3, offset := 0, embedded := false, tag := "", pkgPath := "", byteOffset := 0 }, { name := "Char", type := 9, offset := 1, embedded := false, tag := "", pkgPath := "", byteOffset := 8 }, { name := "Not", type := 4, offset := 2, embedded := false, tag := "", pkgPath := "", byteOffset := 24 }, { name := "Rows", type := 22, offset := 3, embedded := false, tag := "", pkgPath := "", byteOffset := 32 }, { name := "Min", type := 3, offset := 4, embedded := false, tag := "", pkgPath := "", byteOffset := 56 }, { name := "Max", type := 3, offset := 5, embedded := false, tag := "", pkgPath := "", byteOffset := 64 }, { name := "Lazy", type := 4, offset := 6, embedded := false, tag := "", pkgPath := "", byteOffset := 72 }, { name := "Kids", type := 23, offset := 7, embedded := false, tag := "", pkgPath := "", byteOffset := 80 }] := by kernel_rfl
theorem row_fs : Tryd.prog.fieldsOf 42 = #[{ name := "From", type := 9, offset := 0, embedded := false, tag := "", pkgPath := "", byteOffset := 0 }, { name := "To", type := 9, offset := 1, embedded := false, tag := "", pkgPath := "", byteOffset := 16 }] := by kernel_rfl
theorem cells_int : Tryd.prog.cellsOf 3 = 1 := by kernel_rfl
theorem cells_string : Tryd.prog.cellsOf 9 = 1 := by kernel_rfl
theorem cells_bool : Tryd.prog.cellsOf 4 = 1 := by kernel_rfl
theorem cells_rows : Tryd.prog.cellsOf 22 = 1 := by kernel_rfl
theorem cells_rxs : Tryd.prog.cellsOf 23 = 1 := by kernel_rfl
theorem cells_row : Tryd.prog.cellsOf 42 = 2 := by kernel_rfl
theorem cells_rx : Tryd.prog.cellsOf 25 = 8 := by kernel_rfl
theorem choose_rx {w : World} : ∀ {css : List (List Value)}, (∀ c ∈ css, ∃ x : Rx, RxV w Any c x ∧ x.mem) → ∃ xs : List Rx, RxVs w Any css xs ∧ Rx.memL xs
  | [], _ => ⟨[], .nil, by simp [Rx.memL]⟩
  | c :: css, h => by
    obtain ⟨x, hx, hm⟩ := h c (List.mem_cons_self ..)
    obtain ⟨xs, hxs, hms⟩ := choose_rx (fun d hd => h d (List.mem_cons_of_mem _ hd))
    exact ⟨x :: xs, .cons hx hxs, by simp only [Rx.memL]; exact ⟨hm, hms⟩⟩
theorem Sl.slAny {w : World} {a : Option Addr} {sz n : Nat} {cs : List Value} (h : Sl w w.heap.size a sz n cs) : SlS w Any a sz n cs :=
  (h.slS (Nat.le_refl _)).mono fun _ _ _ => trivial
section
variable {H : Type} {enc : TypeId × Value → H} {w : World} {spare : Nat → Bool} {held : Bool}
theorem open_row {n : Nat} {c : List Value} {y : DataW H × List MemPlace} (hc : c.length = 2) (hy : DataW.trod enc Tryd.prog w 0 spare held n 42 c = some y) :
    ∃ r : Str × Str, c = [.string ⟨(r.1).toArray⟩, .string ⟨(r.2).toArray⟩] ∧ r.1.length ≤ maxLen ∧ r.2.length ≤ maxLen := by
  obtain ⟨ys, m, _, _, _, hl, hfs⟩ := DataW.trod_struct row_fields hy
  match c, hc with
  | [c0, c1], _ =>
    rw [row_fs] at hfs hl
    have hys : ys.length = 2 := hl
    have f0 := hfs 0 ({ name := "From", type := 9, offset := 0, embedded := false, tag := "", pkgPath := "", byteOffset := 0 }) rfl
    have f1 := hfs 1 ({ name := "To", type := 9, offset := 1, embedded := false, tag := "", pkgPath := "", byteOffset := 16 }) rfl
    simp only [cells_string] at f0 f1
    rw [List.getElem?_eq_getElem (by omega)] at f0 f1
    obtain ⟨s0, e0, _, h0⟩ := DataW.trod_string Tryd.underlying9 f0
    obtain ⟨s1, e1, _, h1⟩ := DataW.trod_string Tryd.underlying9 f1
    simp only [List.drop, List.take] at e0 e1
    injection e0 with e0; injection e1 with e1
    subst e0 e1
    exact ⟨⟨s0.data.toList, s1.data.toList⟩, by simp, by simpa using h0, by simpa using h1⟩
theorem rx_cells : ∀ (fuel : Nat) (c : List Value) (y : DataW H × List MemPlace), c.length = 8 → DataW.trod enc Tryd.prog w 0 spare held fuel 25 c = some y → ∃ x : Rx, RxV w Any c x ∧ x.mem := by
  intro fuel
  induction fuel using Nat.strongRecOn with
  | ind fuel ih =>
    intro c y hc hy
    obtain ⟨ys, m, hm, _, _, hl, hfs⟩ := DataW.trod_struct rx_fields hy
    match c, hc with
    | [c0, c1, c2, c3, c4, c5, c6, c7], _ =>
      rw [rx_fs] at hfs hl
      have hys : ys.length = 8 := hl
      have f0 := hfs 0 ({ name := "Kind", type := 3, offset := 0, embedded := false, tag := "", pkgPath := "", byteOffset := 0 }) rfl
      have f1 := hfs 1 ({ name := "Char", type := 9, offset := 1, embedded := false, tag := "", pkgPath := "", byteOffset := 8 }) rfl
      have f2 := hfs 2 ({ name := "Not", type := 4, offset := 2, embedded := false, tag := "", pkgPath := "", byteOffset := 24 }) rfl
      have f3 := hfs 3 ({ name := "Rows", type := 22, offset := 3, embedded := false, tag := "", pkgPath := "", byteOffset := 32 }) rfl
      have f4 := hfs 4 ({ name := "Min", type := 3, offset := 4, embedded := false, tag := "", pkgPath := "", byteOffset := 56 }) rfl
      have f5 := hfs 5 ({ name := "Max", type := 3, offset := 5, embedded := false, tag := "", pkgPath := "", byteOffset := 64 }) rfl
      have f6 := hfs 6 ({ name := "Lazy", type := 4, offset := 6, embedded := false, tag := "", pkgPath := "", byteOffset := 72 }) rfl
      have f7 := hfs 7 ({ name := "Kids", type := 23, offset := 7, embedded := false, tag := "", pkgPath := "", byteOffset := 80 }) rfl
      simp only [cells_string, cells_int, cells_bool, cells_rows, cells_rxs] at f0 f1 f2 f3 f4 f5 f6 f7
      rw [List.getElem?_eq_getElem (by omega)] at f0 f1 f2 f3 f4 f5 f6 f7
      obtain ⟨n0, e0, _⟩ := DataW.trod_int Tryd.underlying3 f0
      obtain ⟨s1, e1, _, h1⟩ := DataW.trod_string Tryd.underlying9 f1
      obtain ⟨b2, e2, _⟩ := DataW.trod_bool Tryd.underlying4 f2
      obtain ⟨a3, cap3, rs, e3, h3, hr3, sl3⟩ := slice_map (fun r : Str × Str => [.string ⟨(r.1).toArray⟩, .string ⟨(r.2).toArray⟩]) (fun r => r.1.length ≤ maxLen ∧ r.2.length ≤ maxLen) Tryd.underlying22 (C := 2) cells_row (by decide) f3 (fun n c y _ hc hy => open_row hc hy)
      obtain ⟨n4, e4, _⟩ := DataW.trod_int Tryd.underlying3 f4
      obtain ⟨n5, e5, _⟩ := DataW.trod_int Tryd.underlying3 f5
      obtain ⟨b6, e6, _⟩ := DataW.trod_bool Tryd.underlying4 f6
      obtain ⟨a7, len7, cap7, css, e7, h7, hcl, hq, sl7⟩ := slice_cells Tryd.underlying23 (C := 8) cells_rx (by decide) f7 (fun c => ∃ x : Rx, RxV w Any c x ∧ x.mem) (fun n c y hn hc hy => ih n (by omega) c y hc hy)
      obtain ⟨ks, hks, hmL⟩ := choose_rx (fun c hc => (hq c hc).1)
      have hlk : len7 = ks.length := by rw [← hks.length, hcl]
      subst hlk
      simp only [List.drop, List.take] at e0 e1 e2 e3 e4 e5 e6 e7
      injection e0 with e0; injection e1 with e1; injection e2 with e2; injection e3 with e3; injection e4 with e4; injection e5 with e5; injection e6 with e6; injection e7 with e7
      subst e0 e1 e2 e3 e4 e5 e6 e7
      refine ⟨.mk n0 s1.data.toList b2 rs n4 n5 b6 ks, ?_, ?_⟩
      · have hv := RxV.mk (k := n0) (c := s1.data.toList) (ng := b2) (rs := rs) (lo := n4) (hi := n5) (lz := b6) (ks := ks) (rc := cap3) (kc := cap7) (ra := a3) (ka := a7) sl3.slAny sl7.slAny hks
        unfold rxc at hv
        rw [← ba_of] at hv
        exact hv
      · simp only [Rx.mem, Rx.mem1]
        exact ⟨⟨by simpa using h1, h3, hr3, h7⟩, hmL⟩
theorem open_rx {r : Reach} {b0 : Nat} {v : Value} {d : DataW H} {ps : List MemPlace} (hval : Value.okWide Tryd.prog w r b0 25 v) (h : DataW.Trod enc Tryd.prog w 0 spare held 25 v d ps) :
    ∃ (c : List Value) (x : Rx), v = .agg c.toArray ∧ RxV w Any c x ∧ x.mem := by
  obtain ⟨fuel, hf⟩ := h
  obtain ⟨cs, rfl, hsz⟩ := okWide_struct rx_fields hval
  rw [cells_rx] at hsz
  obtain ⟨x, hx, hm⟩ := rx_cells fuel cs.toList _ (by simpa using hsz) hf
  exact ⟨cs.toList, x, by simp, hx, hm⟩
end
end Go.Proofs.YtpggnfpjjppbmaaDoor
