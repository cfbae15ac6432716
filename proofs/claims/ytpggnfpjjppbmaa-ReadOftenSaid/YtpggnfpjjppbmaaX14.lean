/- walk of rxread.Read -/
import Derived.Test.YtpggnfpjjppbmaaX13
set_option maxRecDepth 100000
namespace Go.Proofs.Ytpggnfpjjppbmaa
open Go.RowKit
theorem pat_all : ∀ n : Nat, PatC n
  | 0 => fun _ _ _ _ _ h _ => by omega
  | n + 1 => pattern_step (pat_all n)
theorem splitF_facts : ∀ (k : Nat) (l : Str), (∀ p ∈ splitF k l, p ≠ [] ∧ p.length ≤ l.length) ∧ (splitF k l).length ≤ l.length
  | 0, _ => by simp [splitF]
  | _ + 1, [] => by simp [splitF]
  | k + 1, c :: r => by
    obtain ⟨i1, i2⟩ := splitF_facts k (r.dropWhile insideB)
    have hd : (r.dropWhile insideB).length ≤ r.length := (List.dropWhile_suffix insideB).length_le
    have ht : (r.takeWhile insideB).length ≤ r.length := (List.takeWhile_prefix insideB).length_le
    refine ⟨fun p hp => ?_, by simp only [splitF, List.length_cons]; omega⟩
    simp only [splitF, List.mem_cons] at hp
    rcases hp with rfl | hp
    · exact ⟨by simp, by simp; omega⟩
    · have := i1 p hp; exact ⟨this.1, by simp; omega⟩
theorem splitM_cons {s : Str} (h : s ≠ []) : ∃ c r, splitM s = c :: r := by
  cases s with
  | nil => exact absurd rfl h
  | cons b t => exact ⟨_, _, rfl⟩
def ReadPost (B : Nat) (w : World) (res : Except Int Rx) (e : Ending) (w' : World) : Prop := Below w.heap.size w w' ∧ match res with
  | .error q => e = .returned (.tuple #[rxv0, .int .i64 q])
  | .ok x => ∃ cc : List Value, e = .returned (.tuple #[.agg cc.toArray, .int .i64 0]) ∧ RxV w' (fun b => B ≤ b) cc x
theorem below_lo {w w2 w5 : World} {g : Nat} (h : Below w.heap.size w w2) (hg : w2.grownBy w5 (some g)) (hB : w.heap.size ≤ g) : Below w.heap.size w w5 :=
  ⟨hg.os.trans h.os, hg.tape.trans h.tape, hg.output.trans h.output, Nat.le_trans h.size hg.size, fun k hk => (hg.block k (by have := h.size; omega) (by
    first
    | omega
    | (intro e; injection e with e; omega))).trans (h.block k hk)⟩
theorem below_grown {w w' : World} {g : Nat} (h : w.grownBy w' (some g)) (hg : w.heap.size ≤ g) : Below w.heap.size w w' := ⟨h.os, h.tape, h.output, h.size, fun k hk => h.block k hk (by
  first
  | (intro e; injection e with e; omega)
  | omega)⟩
def SplitRes (L : List Str) (w : World) (e : Ending) (w' : World) : Prop := ∃ (a : Option Addr) (c : Nat), e = .returned (.slice a L.length c) ∧ SlS w' (fun b => w.heap.size ≤ b) a 1 L.length (scells L) ∧ Below w.heap.size w w'
set_option maxHeartbeats 2000000 in
theorem Read_any (s : Str) (w : World) (hs : s.length ≤ 1000000) :
    Calls Try.prog 13 #[.string ⟨(s).toArray⟩] w fun e w' => ReadPost w.heap.size w (readM s) e w' := by
  obtain ⟨R, hR⟩ : ∃ R, readM s = R := ⟨_, rfl⟩
  rw [hR]
  unfold readM at hR
  by_cases hl : 256 < s.length
  · rw [if_pos hl] at hR
    have HR := Lib.hid hR
    clear hR
    have hbl : Below w.heap.size w (w.alloc (.cells #[.int .i64 0, .string ⟨#[]⟩, .bool false, .slice none 0 0, .int .i64 0, .int .i64 0, .bool false, .slice none 0 0] 26)) := (Below.refl _ _).alloc (Nat.le_refl _) _
    have hby : (w.alloc (.cells #[.int .i64 0, .string ⟨#[]⟩, .bool false, .slice none 0 0, .int .i64 0, .int .i64 0, .bool false, .slice none 0 0] 26)).heap[w.heap.size]? = some (.cells #[.int .i64 0, .string ⟨#[]⟩, .bool false, .slice none 0 0, .int .i64 0, .int .i64 0, .bool false, .slice none 0 0] 26 (0, 0)) := heap_alloc_new w _
    obtain ⟨f0, f1, f2, f3, f4, f5, f6, f7, f8⟩ := bx_cells (c := []) hby
    clear hby
    go_enter Try.func13, Try.ntmps13
    go_wp2
    refine bodyPost_ret (v := .tuple #[.agg #[.int .i64 0, .string ⟨([]).toArray⟩, .bool false, .slice none 0 0, .int .i64 0, .int .i64 0, .bool false, .slice none 0 0], .int .i64 4]) (by simp [results, Try.results13, go_sem, f0, f1, f2, f3, f4, f5, f6, f7]) rfl ?_
    refine ⟨?_, ?_⟩
    · iterate 0 (refine Below.setCell ?_ (by first | omega | (simp; done) | (simp; omega)) _)
      exact hbl
    · rw [← HR.out]; rfl
  rw [if_neg hl] at hR
  obtain ⟨L, hL⟩ : ∃ L, splitM s = L := ⟨_, rfl⟩
  have hf := splitF_facts s.length s
  have hf1 : ∀ p ∈ L, p ≠ [] ∧ p.length ≤ 1000000 := fun p hp => by
    rw [← hL] at hp
    have := hf.1 p hp
    exact ⟨this.1, by omega⟩
  have hf2 : L.length ≤ 200000 := by rw [← hL]; have := hf.2; unfold splitM; omega
  have hf3 : L.length ≤ 256 := by rw [← hL]; have := hf.2; unfold splitM; omega
  rw [hL] at hR
  have HSP : Hid (∀ w, Calls Try.prog 28 #[.string ⟨(s).toArray⟩] w fun e w' => SplitRes L w e w') := Lib.hid (fun w => hL ▸ Split_any s w hs)
  clear hf
  cases s with
  | nil =>
    obtain rfl : L = [] := by rw [← hL]; rfl
    have HR : Hid (readC [] = R) := Lib.hid hR
    clear hR hL
    have HF1 := Lib.hid hf1
    clear hf1
    obtain ⟨w0, hw0⟩ : ∃ w0, w0 = w.alloc (.cells #[.int .i64 0, .string ⟨#[]⟩, .bool false, .slice none 0 0, .int .i64 0, .int .i64 0, .bool false, .slice none 0 0] 26) := ⟨_, rfl⟩
    obtain ⟨hb0, hz0e, hby0⟩ := alloc1 w hw0
    have HW0 := Lib.hid hw0
    have HBY0 := Lib.hid hby0
    have hz0 : w.heap.size + 1 ≤ w0.heap.size := by omega
    clear hw0 hby0 hz0e
    go_enter Try.func13, Try.ntmps13
    go_wp2_with (go_at_call 28; refine (HSP.out _).mono ?_)
    rintro e w1 hq
    obtain ⟨a, k, rfl, hsl, hb1⟩ := hq
    rw [← HW0.out] at hsl hb1
    have hz1 := hb1.size
    obtain ⟨w2, hw2⟩ : ∃ w2, w2 = w1.alloc (.cells #[.slice a 0 k, .int .i64 0, .int .i64 0] 58) := ⟨_, rfl⟩
    obtain ⟨hb2, hz2e, hbr2⟩ := alloc1 w1 hw2
    have hz2 : w1.heap.size + 1 ≤ w2.heap.size := by omega
    have HCH := Lib.hid (hsl.keep (Kept.all hb2))
    have HRD2 : Hid (Rd w2 w1.heap.size (([] : List Str)) 0) := Lib.hid ⟨a, k, ([] : List Str), 0, hbr2, (hsl.mono (S' := fun b => b < w1.heap.size) fun b _ h => h).keep (Kept.all hb2), hf2, by omega, HF1.out, rfl⟩
    have hbw2 : Below w.heap.size w w2 := (hb0.trans (hb1.mono (by omega))).trans (hb2.mono (by omega))
    have HBY2 := Lib.hid ((hb2.block _ (heap_lt ((hb1.block _ (heap_lt HBY0.out)).trans HBY0.out))).trans ((hb1.block _ (heap_lt HBY0.out)).trans HBY0.out))
    clear hsl hb1 hz2e hb0
    go_upto_region 6 with fail
    rw [← hw2]
    clear hw2
    have HPAT := Lib.hid (pat_all ((([] : List Str)).length + 1) w1.heap.size 0 (([] : List Str)) w2 HRD2.out (by omega) (by omega))
    go_wp2_with (go_at_call 30; refine HPAT.out.mono ?_)
    rintro e w5 hq
    clear HPAT
    cases hpr : patF ((([] : List Str)).length + 1) (([] : List Str)) 0 with
    | error q =>
      rw [hpr] at hq
      obtain ⟨hq5, rfl, r9, hrd9⟩ := hq
      have hq0 : q ≠ 0 := pat_err _ _ _ q hpr
      have HR2 : Hid (Except.error q = R) := Lib.hid (by rw [← HR.out]; unfold readC; simp only [hpr])
      have HR := HR2
      have hby5 := box_grown HBY2.out hq5 (by omega)
      have hbl5 : Below w.heap.size w w5 := below_lo hbw2 hq5 (by omega)
      have hz5 := hbl5.size
      have hb6 : Below w5.heap.size w5 (w5.alloc (.cells #[.int .i64 0, .string ⟨#[]⟩, .bool false, .slice none 0 0, .int .i64 0, .int .i64 0, .bool false, .slice none 0 0] 26)) := (Below.refl _ _).alloc (Nat.le_refl _) _
      have hbl6 := hbl5.trans (hb6.mono hz5)
      have ne1 : (q == 0) = false := beq_eq_false_iff_ne.2 hq0
      have ne2 : (q != 0) = true := by simp [bne, ne1]
      obtain ⟨f0, f1, f2, f3, f4, f5, f6, f7, f8⟩ := bx_cells (c := []) ((hb6.block _ (heap_lt hby5)).trans hby5)
      clear hpr hby5 hrd9 hb6 hq5
      unfold rxv0
      go_wp2
      refine bodyPost_ret (v := .tuple #[.agg #[.int .i64 0, .string ⟨([]).toArray⟩, .bool false, .slice none 0 0, .int .i64 0, .int .i64 0, .bool false, .slice none 0 0], .int .i64 q]) (by simp [results, Try.results13, go_sem, f0, f1, f2, f3, f4, f5, f6, f7]) rfl ?_
      refine ⟨?_, ?_⟩
      · iterate 8 (refine Below.setCell ?_ (by first | omega | (simp; done) | (simp; omega)) _)
        exact hbl6
      · rw [← HR.out]; rfl
    | ok y =>
      obtain ⟨x, r3⟩ := y
      rw [hpr] at hq
      obtain ⟨hq5, cc, rfl, hxv, hrd5⟩ := hq
      have hby5 := box_grown HBY2.out hq5 (by omega)
      have hbl5 : Below w.heap.size w w5 := below_lo hbw2 hq5 (by omega)
      have hz5 := hbl5.size
      have hq5z := hq5.size
      obtain ⟨k, c, ng, rs, lo, hi, lz, ks, ra, rc, ka, kc, hx, rfl⟩ := hxv.box
      have hb6 : Below w5.heap.size w5 (w5.alloc (.cells (rxc k c ng ra rs.length rc lo hi lz ka ks.length kc).toArray 26)) := (Below.refl _ _).alloc (Nat.le_refl _) _
      have hbl6 := hbl5.trans (hb6.mono hz5)
      have HRD6 := Lib.hid (hrd5.later hb6)
      have HXV := Lib.hid ((hxv.mono (S' := fun b => w.heap.size ≤ b ∧ b ≠ w.heap.size) fun b hb hlt => by constructor <;> omega).later hb6)
      have HBY6 := Lib.hid ((hb6.block _ (heap_lt hby5)).trans hby5)
      have HBX6 : Hid ((w5.alloc (.cells (rxc k c ng ra rs.length rc lo hi lz ka ks.length kc).toArray 26)).heap[w5.heap.size]? = some (.cells (rxc k c ng ra rs.length rc lo hi lz ka ks.length kc).toArray 26 (0, 0))) := Lib.hid (heap_alloc_new w5 _)
      clear hxv hrd5 hby5 hb6
      unfold rxc at hbl6 HRD6 HXV HBY6 HBX6 ⊢
      cases r3 with
      | nil =>
        have HR2 : Hid (Except.ok x = R) := Lib.hid (by rw [← HR.out]; unfold readC; simp only [hpr])
        have HR := HR2
        rw [hx] at HR HXV
        clear hpr hx HR2
        go_wp2_with (go_at_call 31; refine (see_any _ HRD6.out).mono ?_)
        rintro e w7 ⟨rfl, hst⟩
        have e0 : hdS [] = [] := rfl
        rw [e0]
        have hb7 := hst.below w.heap.size
        have hbl7 := hbl6.trans hb7
        have HXV7 := Lib.hid (HXV.out.later (hst.below _))
        obtain ⟨f0, f1, f2, f3, f4, f5, f6, f7, f8⟩ := bx_cells (c := []) (((hst.below _).block _ (heap_lt HBY6.out)).trans HBY6.out)
        obtain ⟨e0, e1, e2, e3, e4, e5, e6, e7, e8⟩ := bx_cells (((hst.below _).block _ (heap_lt HBX6.out)).trans HBX6.out)
        clear hst hb7
        go_wp2
        refine bodyPost_ret (v := .tuple #[.agg #[.int .i64 k, .string ⟨(c).toArray⟩, .bool ng, .slice ra rs.length rc, .int .i64 lo, .int .i64 hi, .bool lz, .slice ka ks.length kc], .int .i64 0]) (by simp [results, Try.results13, go_sem, f0, f1, f2, f3, f4, f5, f6, f7]) rfl ?_
        refine ⟨?_, ?_⟩
        · iterate 8 (refine Below.setCell ?_ (by first | omega | (simp; done) | (simp; omega)) _)
          exact hbl7
        rw [← HR.out]
        refine ⟨rxc k c ng ra rs.length rc lo hi lz ka ks.length kc, rfl, RxV.mono (S := fun b => w.heap.size ≤ b ∧ b ≠ w.heap.size) (fun b hb _ => hb.1) ?_⟩
        iterate 8 (refine RxV.keep (Kept.setLow _ (fun b hb => by have : w.heap.size ≤ b ∧ b ≠ w.heap.size := hb; first | omega | (simp; done) | (simp; omega))) ?_)
        exact HXV7.out
      | cons p r4 =>
        have HR2 : Hid (Except.error 10 = R) := Lib.hid (by rw [← HR.out]; unfold readC; simp only [hpr])
        have HR := HR2
        have hp0 := HRD6.out.pos.1
        have hp1 : List.isEmpty p = false := by cases p <;> simp at hp0 ⊢
        have hp2 : (!List.isEmpty p) = true := by rw [hp1]; rfl
        clear hpr hx HR2 hp0
        go_wp2_with (go_at_call 31; refine (see_any _ HRD6.out).mono ?_)
        rintro e w7 ⟨rfl, hst⟩
        rw [hdS_cons]
        have hbl7 := hbl6.trans (hst.below w.heap.size)
        obtain ⟨f0, f1, f2, f3, f4, f5, f6, f7, f8⟩ := bx_cells (c := []) (((hst.below _).block _ (heap_lt HBY6.out)).trans HBY6.out)
        clear hst
        go_wp2
        refine bodyPost_ret (v := .tuple #[.agg #[.int .i64 0, .string ⟨([]).toArray⟩, .bool false, .slice none 0 0, .int .i64 0, .int .i64 0, .bool false, .slice none 0 0], .int .i64 10]) (by simp [results, Try.results13, go_sem, f0, f1, f2, f3, f4, f5, f6, f7]) rfl ?_
        refine ⟨?_, ?_⟩
        · iterate 8 (refine Below.setCell ?_ (by first | omega | (simp; done) | (simp; omega)) _)
          exact hbl7
        · rw [← HR.out]; rfl
  | cons b t =>
    obtain ⟨c, r, rfl⟩ : ∃ c r, L = c :: r := by rw [← hL]; exact ⟨_, _, rfl⟩
    generalize hss : b :: t = s at *
    have hs1 : List.isEmpty s = false := by rw [← hss]; rfl
    have hs2 : (!List.isEmpty s) = true := by rw [hs1]; rfl
    clear hss hL
    have hcl := (hf1 c (List.mem_cons_self ..)).2
    have HF1 := Lib.hid hf1
    clear hf1
    cases hpb : properB c with
    | false =>
      have HR : Hid (Except.error 10 = R) := Lib.hid (by rw [← hR]; simp [hpb])
      have HPB := Lib.hid hpb
      clear hR hpb
      obtain ⟨w0, hw0⟩ : ∃ w0, w0 = w.alloc (.cells #[.int .i64 0, .string ⟨#[]⟩, .bool false, .slice none 0 0, .int .i64 0, .int .i64 0, .bool false, .slice none 0 0] 26) := ⟨_, rfl⟩
      obtain ⟨hb0, hz0e, hby0⟩ := alloc1 w hw0
      have HW0 := Lib.hid hw0
      have HBY0 := Lib.hid hby0
      have hz0 : w.heap.size + 1 ≤ w0.heap.size := by omega
      clear hw0 hby0 hz0e
      go_enter Try.func13, Try.ntmps13
      go_wp2_with (go_at_call 28; refine (HSP.out _).mono ?_)
      rintro e w1 hq
      obtain ⟨a, k, rfl, hsl, hb1⟩ := hq
      rw [← HW0.out] at hsl hb1
      have hz1 := hb1.size
      obtain ⟨w2, hw2⟩ : ∃ w2, w2 = w1.alloc (.cells #[.slice a (r.length + 1) k, .int .i64 0, .int .i64 0] 58) := ⟨_, rfl⟩
      obtain ⟨hb2, hz2e, hbr2⟩ := alloc1 w1 hw2
      have hz2 : w1.heap.size + 1 ≤ w2.heap.size := by omega
      have HCH := Lib.hid (hsl.keep (Kept.all hb2))
      have HRD2 : Hid (Rd w2 w1.heap.size (c :: r) 0) := Lib.hid ⟨a, k, c :: r, 0, hbr2, (hsl.mono (S' := fun b => b < w1.heap.size) fun b _ h => h).keep (Kept.all hb2), hf2, by omega, HF1.out, rfl⟩
      have hbw2 : Below w.heap.size w w2 := (hb0.trans (hb1.mono (by omega))).trans (hb2.mono (by omega))
      have HBY2 := Lib.hid ((hb2.block _ (heap_lt ((hb1.block _ (heap_lt HBY0.out)).trans HBY0.out))).trans ((hb1.block _ (heap_lt HBY0.out)).trans HBY0.out))
      clear hsl hb1 hz2e hb0
      go_upto_region 4 with fail
      rw [← hw2]
      clear hw2
      obtain ⟨cb, co, rfl, _, kc⟩ := HCH.out.sl.str (k := 0) (p := c) rfl
      have kc' : w2.cell? ⟨cb, co, none⟩ = some (.string ⟨(c).toArray⟩) := kc
      have c0 : w2.cell? ⟨w1.heap.size, 0, none⟩ = some (.slice (some ⟨cb, co, none⟩) (r.length + 1) k) := by rw [Lib.cell_of_heap hbr2]; rfl
      have HPR : Hid (Calls Try.prog 29 #[.string ⟨(c).toArray⟩] w2 fun e w' => e = .returned (.bool false) ∧ w2 = w') := Lib.hid (HPB.out ▸ Proper_any c w2 (by omega))
      clear kc
      go_wp2_with (go_at_call 29; refine HPR.out.mono ?_)
      rintro e wq ⟨rfl, rfl⟩
      have HBYq := HBY2
      have hbwq := hbw2
      clear kc' c0 HPR
      obtain ⟨f0, f1, f2, f3, f4, f5, f6, f7, f8⟩ := bx_cells (c := []) HBYq.out
      go_wp2
      refine bodyPost_ret (v := .tuple #[.agg #[.int .i64 0, .string ⟨([]).toArray⟩, .bool false, .slice none 0 0, .int .i64 0, .int .i64 0, .bool false, .slice none 0 0], .int .i64 10]) (by simp [results, Try.results13, go_sem, f0, f1, f2, f3, f4, f5, f6, f7]) rfl ?_
      refine ⟨?_, ?_⟩
      · iterate 8 (refine Below.setCell ?_ (by first | omega | (simp; done) | (simp; omega)) _)
        exact hbwq
      · rw [← HR.out]; rfl
    | true =>
      have HR : Hid (readC (c :: r) = R) := Lib.hid (by rw [← hR]; simp [hpb])
      have HPB := Lib.hid hpb
      clear hR hpb
      obtain ⟨w0, hw0⟩ : ∃ w0, w0 = w.alloc (.cells #[.int .i64 0, .string ⟨#[]⟩, .bool false, .slice none 0 0, .int .i64 0, .int .i64 0, .bool false, .slice none 0 0] 26) := ⟨_, rfl⟩
      obtain ⟨hb0, hz0e, hby0⟩ := alloc1 w hw0
      have HW0 := Lib.hid hw0
      have HBY0 := Lib.hid hby0
      have hz0 : w.heap.size + 1 ≤ w0.heap.size := by omega
      clear hw0 hby0 hz0e
      go_enter Try.func13, Try.ntmps13
      go_wp2_with (go_at_call 28; refine (HSP.out _).mono ?_)
      rintro e w1 hq
      obtain ⟨a, k, rfl, hsl, hb1⟩ := hq
      rw [← HW0.out] at hsl hb1
      have hz1 := hb1.size
      obtain ⟨w2, hw2⟩ : ∃ w2, w2 = w1.alloc (.cells #[.slice a (r.length + 1) k, .int .i64 0, .int .i64 0] 58) := ⟨_, rfl⟩
      obtain ⟨hb2, hz2e, hbr2⟩ := alloc1 w1 hw2
      have hz2 : w1.heap.size + 1 ≤ w2.heap.size := by omega
      have HCH := Lib.hid (hsl.keep (Kept.all hb2))
      have HRD2 : Hid (Rd w2 w1.heap.size (c :: r) 0) := Lib.hid ⟨a, k, c :: r, 0, hbr2, (hsl.mono (S' := fun b => b < w1.heap.size) fun b _ h => h).keep (Kept.all hb2), hf2, by omega, HF1.out, rfl⟩
      have hbw2 : Below w.heap.size w w2 := (hb0.trans (hb1.mono (by omega))).trans (hb2.mono (by omega))
      have HBY2 := Lib.hid ((hb2.block _ (heap_lt ((hb1.block _ (heap_lt HBY0.out)).trans HBY0.out))).trans ((hb1.block _ (heap_lt HBY0.out)).trans HBY0.out))
      clear hsl hb1 hz2e hb0
      go_upto_region 4 with fail
      rw [← hw2]
      clear hw2
      obtain ⟨cb, co, rfl, _, kc⟩ := HCH.out.sl.str (k := 0) (p := c) rfl
      have kc' : w2.cell? ⟨cb, co, none⟩ = some (.string ⟨(c).toArray⟩) := kc
      have c0 : w2.cell? ⟨w1.heap.size, 0, none⟩ = some (.slice (some ⟨cb, co, none⟩) (r.length + 1) k) := by rw [Lib.cell_of_heap hbr2]; rfl
      have HPR : Hid (Calls Try.prog 29 #[.string ⟨(c).toArray⟩] w2 fun e w' => e = .returned (.bool true) ∧ w2 = w') := Lib.hid (HPB.out ▸ Proper_any c w2 (by omega))
      clear kc
      go_wp2_with (go_at_call 29; refine HPR.out.mono ?_)
      rintro e wq ⟨rfl, rfl⟩
      have HBYq := HBY2
      have hbwq := hbw2
      clear kc' c0 HPR
      have HPAT := Lib.hid (pat_all ((c :: r).length + 1) w1.heap.size 0 (c :: r) w2 HRD2.out (by omega) (by omega))
      go_wp2_with (go_at_call 30; refine HPAT.out.mono ?_)
      rintro e w5 hq
      clear HPAT
      cases hpr : patF ((c :: r).length + 1) (c :: r) 0 with
      | error q =>
        rw [hpr] at hq
        obtain ⟨hq5, rfl, r9, hrd9⟩ := hq
        have hq0 : q ≠ 0 := pat_err _ _ _ q hpr
        have HR2 : Hid (Except.error q = R) := Lib.hid (by rw [← HR.out]; unfold readC; simp only [hpr])
        have HR := HR2
        have hby5 := box_grown HBY2.out hq5 (by omega)
        have hbl5 : Below w.heap.size w w5 := below_lo hbw2 hq5 (by omega)
        have hz5 := hbl5.size
        have hb6 : Below w5.heap.size w5 (w5.alloc (.cells #[.int .i64 0, .string ⟨#[]⟩, .bool false, .slice none 0 0, .int .i64 0, .int .i64 0, .bool false, .slice none 0 0] 26)) := (Below.refl _ _).alloc (Nat.le_refl _) _
        have hbl6 := hbl5.trans (hb6.mono hz5)
        have ne1 : (q == 0) = false := beq_eq_false_iff_ne.2 hq0
        have ne2 : (q != 0) = true := by simp [bne, ne1]
        obtain ⟨f0, f1, f2, f3, f4, f5, f6, f7, f8⟩ := bx_cells (c := []) ((hb6.block _ (heap_lt hby5)).trans hby5)
        clear hpr hby5 hrd9 hb6 hq5
        unfold rxv0
        go_wp2
        refine bodyPost_ret (v := .tuple #[.agg #[.int .i64 0, .string ⟨([]).toArray⟩, .bool false, .slice none 0 0, .int .i64 0, .int .i64 0, .bool false, .slice none 0 0], .int .i64 q]) (by simp [results, Try.results13, go_sem, f0, f1, f2, f3, f4, f5, f6, f7]) rfl ?_
        refine ⟨?_, ?_⟩
        · iterate 8 (refine Below.setCell ?_ (by first | omega | (simp; done) | (simp; omega)) _)
          exact hbl6
        · rw [← HR.out]; rfl
      | ok y =>
        obtain ⟨x, r3⟩ := y
        rw [hpr] at hq
        obtain ⟨hq5, cc, rfl, hxv, hrd5⟩ := hq
        have hby5 := box_grown HBY2.out hq5 (by omega)
        have hbl5 : Below w.heap.size w w5 := below_lo hbw2 hq5 (by omega)
        have hz5 := hbl5.size
        have hq5z := hq5.size
        obtain ⟨k, c, ng, rs, lo, hi, lz, ks, ra, rc, ka, kc, hx, rfl⟩ := hxv.box
        have hb6 : Below w5.heap.size w5 (w5.alloc (.cells (rxc k c ng ra rs.length rc lo hi lz ka ks.length kc).toArray 26)) := (Below.refl _ _).alloc (Nat.le_refl _) _
        have hbl6 := hbl5.trans (hb6.mono hz5)
        have HRD6 := Lib.hid (hrd5.later hb6)
        have HXV := Lib.hid ((hxv.mono (S' := fun b => w.heap.size ≤ b ∧ b ≠ w.heap.size) fun b hb hlt => by constructor <;> omega).later hb6)
        have HBY6 := Lib.hid ((hb6.block _ (heap_lt hby5)).trans hby5)
        have HBX6 : Hid ((w5.alloc (.cells (rxc k c ng ra rs.length rc lo hi lz ka ks.length kc).toArray 26)).heap[w5.heap.size]? = some (.cells (rxc k c ng ra rs.length rc lo hi lz ka ks.length kc).toArray 26 (0, 0))) := Lib.hid (heap_alloc_new w5 _)
        clear hxv hrd5 hby5 hb6
        unfold rxc at hbl6 HRD6 HXV HBY6 HBX6 ⊢
        cases r3 with
        | nil =>
          have HR2 : Hid (Except.ok x = R) := Lib.hid (by rw [← HR.out]; unfold readC; simp only [hpr])
          have HR := HR2
          rw [hx] at HR HXV
          clear hpr hx HR2
          go_wp2_with (go_at_call 31; refine (see_any _ HRD6.out).mono ?_)
          rintro e w7 ⟨rfl, hst⟩
          have e0 : hdS [] = [] := rfl
          rw [e0]
          have hb7 := hst.below w.heap.size
          have hbl7 := hbl6.trans hb7
          have HXV7 := Lib.hid (HXV.out.later (hst.below _))
          obtain ⟨f0, f1, f2, f3, f4, f5, f6, f7, f8⟩ := bx_cells (c := []) (((hst.below _).block _ (heap_lt HBY6.out)).trans HBY6.out)
          obtain ⟨e0, e1, e2, e3, e4, e5, e6, e7, e8⟩ := bx_cells (((hst.below _).block _ (heap_lt HBX6.out)).trans HBX6.out)
          clear hst hb7
          go_wp2
          refine bodyPost_ret (v := .tuple #[.agg #[.int .i64 k, .string ⟨(c).toArray⟩, .bool ng, .slice ra rs.length rc, .int .i64 lo, .int .i64 hi, .bool lz, .slice ka ks.length kc], .int .i64 0]) (by simp [results, Try.results13, go_sem, f0, f1, f2, f3, f4, f5, f6, f7]) rfl ?_
          refine ⟨?_, ?_⟩
          · iterate 8 (refine Below.setCell ?_ (by first | omega | (simp; done) | (simp; omega)) _)
            exact hbl7
          rw [← HR.out]
          refine ⟨rxc k c ng ra rs.length rc lo hi lz ka ks.length kc, rfl, RxV.mono (S := fun b => w.heap.size ≤ b ∧ b ≠ w.heap.size) (fun b hb _ => hb.1) ?_⟩
          iterate 8 (refine RxV.keep (Kept.setLow _ (fun b hb => by have : w.heap.size ≤ b ∧ b ≠ w.heap.size := hb; first | omega | (simp; done) | (simp; omega))) ?_)
          exact HXV7.out
        | cons p r4 =>
          have HR2 : Hid (Except.error 10 = R) := Lib.hid (by rw [← HR.out]; unfold readC; simp only [hpr])
          have HR := HR2
          have hp0 := HRD6.out.pos.1
          have hp1 : List.isEmpty p = false := by cases p <;> simp at hp0 ⊢
          have hp2 : (!List.isEmpty p) = true := by rw [hp1]; rfl
          clear hpr hx HR2 hp0
          go_wp2_with (go_at_call 31; refine (see_any _ HRD6.out).mono ?_)
          rintro e w7 ⟨rfl, hst⟩
          rw [hdS_cons]
          have hbl7 := hbl6.trans (hst.below w.heap.size)
          obtain ⟨f0, f1, f2, f3, f4, f5, f6, f7, f8⟩ := bx_cells (c := []) (((hst.below _).block _ (heap_lt HBY6.out)).trans HBY6.out)
          clear hst
          go_wp2
          refine bodyPost_ret (v := .tuple #[.agg #[.int .i64 0, .string ⟨([]).toArray⟩, .bool false, .slice none 0 0, .int .i64 0, .int .i64 0, .bool false, .slice none 0 0], .int .i64 10]) (by simp [results, Try.results13, go_sem, f0, f1, f2, f3, f4, f5, f6, f7]) rfl ?_
          refine ⟨?_, ?_⟩
          · iterate 8 (refine Below.setCell ?_ (by first | omega | (simp; done) | (simp; omega)) _)
            exact hbl7
          · rw [← HR.out]; rfl
end Go.Proofs.Ytpggnfpjjppbmaa
