/- walk of rxshow.set -/
import Derived.Test.YtpggnfpjjppbmaaDoorS1
import Derived.Test.YtpggnfpjjppbmaaDoorRxV
set_option maxRecDepth 100000
namespace Go.Proofs.YtpggnfpjjppbmaaDoor
open Go.RowKit
theorem Fr.held {B g : Nat} {w w' : World} (h : Fr B [g] [5] w w') {k : Nat} {cs : Array Value} {T : TypeId} {m : Nat × Nat} (hk : w.heap[k]? = some (.cells cs T m)) (hT : T ≠ 5) (hg : k ≠ g) : w'.heap[k]? = some (.cells cs T m) :=
  (h.block k (heap_lt hk) (by simpa using hg) (.inr (by intro e he; simp at he; subst he; simp [tagOf, hk, hT]))).trans hk
def SetRel (B g : Nat) (rs : List (Str × Str)) (T : Str) (w1 : World) (q : Value) (wr : World) : Prop :=
  ∃ (k : Nat) (acc : Str), k ≤ rs.length ∧ q = .int .i64 k ∧ Bld B g acc wr ∧ Fr B [g] [5] w1 wr ∧ acc.length ≤ 20000000 ∧ Hid (acc ++ (rs.drop k).flatMap rowS = T)
set_option maxHeartbeats 4000000 in
theorem set_any (B g : Nat) (acc : Str) (kd : Int) (c : Str) (ng : Bool) (ra : Option Addr) (rs : List (Str × Str)) (rc : Nat) (lo hi : Int) (lz : Bool) (ka : Option Addr) (kn kc : Nat) (w : World)
    (hbl : Bld B g acc w) (hB : B ≤ w.heap.size) (hr : Sl w B ra 2 rs.length (rcells rs)) (hne : ∀ r ∈ rs, r.1 ≠ [] ∧ r.2 ≠ []) (hsz : ∀ r ∈ rs, r.1.length ≤ 1000000 ∧ r.2.length ≤ 1000000) (hrl : rs.length ≤ 1000000)
    (hlen : (acc ++ setS ng rs).length ≤ 10000000) :
    Calls Tryd.prog 39 #[.pointer (some ⟨g, 0, none⟩), .agg #[.int .i64 kd, .string ⟨(c).toArray⟩, .bool ng, .slice ra rs.length rc, .int .i64 lo, .int .i64 hi, .bool lz, .slice ka kn kc]] w fun e w' => e = .returned (.tuple #[]) ∧ Bld B g (acc ++ setS ng rs) w' ∧ Fr B [g] [5] w w' := by
  have HNE := Lib.hid hne
  have HSZ := Lib.hid hsz
  clear hne hsz
  have hal : acc.length ≤ 10000000 := by simp only [List.length_append] at hlen; omega
  have hgl0 := hbl.lt
  cases ng with
  | false =>
    simp only [setS, List.length_append, List.length_cons, Bool.false_eq_true, if_false, List.nil_append] at hlen
    go_enter Tryd.func39, Tryd.ntmps39
    go_wp2_with (go_at_call 36; refine (WriteByte_any B _ (acc) 91 _ (hbl.alloc _) (by first | omega | (simp only [List.length_append, List.length_cons, List.length_nil]; omega)) (by first | omega | (simp; omega)) (by decide) (by decide)).mono ?_)
    first | rintro e w1 rfl hbl1 hfr1 | rintro e w1 ⟨rfl, hbl1, hfr1⟩
    have hbx0 := hfr1.held (heap_alloc_new w _) (by decide) (Nat.ne_of_gt hbl.lt)
    have z2 : w1.cell? ⟨w.heap.size, 2, none⟩ = some (.bool false) := by rw [Lib.cell_of_heap hbx0]; rfl
    clear hbx0
    have hbx1 := (hfr1).held (heap_alloc_new w _) (by decide) (Nat.ne_of_gt hbl.lt)
    have z3 : w1.cell? ⟨w.heap.size, 3, none⟩ = some (.slice ra rs.length rc) := by rw [Lib.cell_of_heap hbx1]; rfl
    have hB1 : B ≤ w1.heap.size := by have := (hfr1).size; simp at this; omega
    have HR1 := Lib.hid (hr.keep (((Below.refl B w).alloc hB _).trans ((hfr1).below (by simp; omega) (by simp; exact hbl.le))))
    obtain ⟨T, hT⟩ : ∃ T, (acc ++ [91]) ++ rs.flatMap rowS = T := ⟨_, rfl⟩
    have HT0 : Hid ((acc ++ [91]) ++ (rs.drop 0).flatMap rowS = T) := Lib.hid hT
    have HTL : T.length ≤ 15000000 := by rw [← hT]; have h := hlen; simp only [List.length_append, List.length_cons, List.length_nil] at h ⊢; omega
    have HTT := Lib.hid hT
    have HFR0 := Lib.hid hfr1
    have HBX := Lib.hid hbx1
    clear hT hbx1
    go_wp2
    go_loopw [15] (fun q wr => SetRel B g rs T w1 q wr) (fun q _ => rs.length - (intOf q).toNat)
    case atStart => exact ⟨0, acc ++ [91], by omega, rfl, hbl1, Fr.refl _ _ _ _, by have h := hlen; simp only [List.length_append, List.length_cons, List.length_nil] at h ⊢; omega, HT0⟩
    case round =>
      obtain ⟨k, ac, hk, rfl, hblr, hfrr, hacl, HF⟩ := hrel
      clear HT0 z3
      have hBr : B ≤ wr.heap.size := Nat.le_trans hB1 hfrr.size
      have hbB := hfrr.below hB1 (by simp; exact hbl.le)
      have hgl := hblr.lt
      cases hd : rs.drop k with
      | nil =>
        have h2 : rs.length ≤ k := by simpa using hd
        have HE : Hid (ac = T) := Lib.hid (by rw [← HF.out, hd]; simp)
        clear hd HF
        go_wp2_with (go_at_call 36; refine (WriteByte_any B _ (ac) 93 _ (hblr) (by first | omega | (simp only [List.length_append, List.length_cons, List.length_nil]; omega)) (by first | omega | (simp; omega)) (by decide) (by decide)).mono ?_)
        first | rintro e w9 rfl hbl9 hfr9 | rintro e w9 ⟨rfl, hbl9, hfr9⟩
        go_wp2_with fail
        go_end0
        refine ⟨rfl, ?_, ((((Fr.refl B [g] [5] w).alloc _).trans HFR0.out).trans hfrr).trans hfr9⟩
        have h := hbl9
        rw [HE.out, ← HTT.out] at h
        simpa [setS] using h
      | cons r0 r =>
        obtain ⟨h2, h3, hr0⟩ := ldrop_cons hd
        obtain ⟨n1, n2⟩ := HNE.out r0 (List.mem_of_getElem? h3)
        obtain ⟨b, o, rfl, hbb, c0, c1⟩ := (HR1.out.keep hbB).row h3
        obtain ⟨f, t⟩ := r0
        replace n1 : f ≠ [] := n1
        replace n2 : t ≠ [] := n2
        replace c0 : wr.cell? ⟨b, o + k * 2, none⟩ = some (.string ⟨(f).toArray⟩) := c0
        replace c1 : wr.cell? ⟨b, o + k * 2 + 1, none⟩ = some (.string ⟨(t).toArray⟩) := c1
        have HE : Hid (ac ++ (rowS (f, t) ++ r.flatMap rowS) = T) := Lib.hid (by rw [← HF.out, hd]; rfl)
        have Hr := Lib.hid hr0
        have hsl : ac.length + (escL th2 f).length + (if t = f then 0 else (escL th2 t).length + 1) ≤ 15000000 := by
          have h := congrArg List.length HE.out
          simp only [List.length_append, rowS] at h
          split <;> simp_all <;> omega
        obtain ⟨l1, l2⟩ := HSZ.out (f, t) (List.mem_of_getElem? h3)
        replace l1 : f.length ≤ 1000000 := l1
        replace l2 : t.length ≤ 1000000 := l2
        have q1 := escL_len th2 f
        have q2 := escL_len th2 t
        have N1 := Lib.hid n1; have N2 := Lib.hid n2
        clear hd HF hr0 h3 n1 n2
        go_wp2_with (first | (go_at_call 38; refine (escape_any _ _ _ N1.out (by omega)).mono ?_; rintro e w2 ⟨rfl, rfl⟩; rw [show [94, 45, 92, 91, 93, 47] = th2 from rfl]) | (go_at_call 37; refine (WriteString_any B _ (ac) _ _ (hblr.alloc _) (by first | omega | (simp only [List.length_append, List.length_cons, List.length_nil]; omega)) (by first | omega | (simp only [List.length_append, List.length_cons, List.length_nil]; omega)) (by first | omega | (simp; omega))).mono ?_))
        first | rintro e w2 rfl hbl2 hfr2 | rintro e w2 ⟨rfl, hbl2, hfr2⟩
        have hbx2 := hfr2.held (heap_alloc_new wr _) (by decide) (Nat.ne_of_gt hgl)
        have y0 : w2.cell? ⟨wr.heap.size, 0, none⟩ = some (.string ⟨(f).toArray⟩) := by rw [Lib.cell_of_heap hbx2]; rfl
        have y1 : w2.cell? ⟨wr.heap.size, 1, none⟩ = some (.string ⟨(t).toArray⟩) := by rw [Lib.cell_of_heap hbx2]; rfl
        have hf2 := ((Fr.refl B [g] [5] wr).alloc _).trans hfr2
        have hB2 : B ≤ w2.heap.size := Nat.le_trans hBr hf2.size
        have HFR2 := Lib.hid (hfrr.trans hf2)
        have HBX2 := Lib.hid hbx2
        clear hbx2 hf2 hfr2
        by_cases htf : t = f
        · have HT2 := Lib.hid htf
          subst htf
          go_wp2
          go_roundw
          case rel => exact ⟨k + 1, ac ++ escL th2 t, by omega, by go_num, hbl2, HFR2.out, by simp only [List.length_append]; simp at hsl; omega, Lib.hid (by rw [Hr.out, ← HE.out]; simp [rowS])⟩
          case measure => simp [intOf]; omega
        · have hne : (t == f) = false := by simpa using htf
          have HT2 := Lib.hid htf
          rw [if_neg htf] at hsl
          clear htf
          go_wp2_with (go_at_call 36; refine (WriteByte_any B _ (ac ++ escL th2 f) 45 _ (hbl2) (by first | omega | (simp only [List.length_append, List.length_cons, List.length_nil]; omega)) (by first | omega | (simp; omega)) (by decide) (by decide)).mono ?_)
          first | rintro e w3 rfl hbl3 hfr3 | rintro e w3 ⟨rfl, hbl3, hfr3⟩
          have hbx3 := hfr3.held HBX2.out (by decide) (Nat.ne_of_gt hgl)
          have y2 : w3.cell? ⟨wr.heap.size, 1, none⟩ = some (.string ⟨(t).toArray⟩) := by rw [Lib.cell_of_heap hbx3]; rfl
          have hB3 : B ≤ w3.heap.size := Nat.le_trans hB2 hfr3.size
          have HFR3 := Lib.hid (HFR2.out.trans hfr3)
          clear hbx3 hfr3
          go_wp2_with (first | (go_at_call 38; refine (escape_any _ _ _ N2.out (by omega)).mono ?_; rintro e w4 ⟨rfl, rfl⟩; rw [show [94, 45, 92, 91, 93, 47] = th2 from rfl]) | (go_at_call 37; refine (WriteString_any B _ (ac ++ escL th2 f ++ [45]) _ _ (hbl3) (by first | omega | (simp only [List.length_append, List.length_cons, List.length_nil]; omega)) (by first | omega | (simp only [List.length_append, List.length_cons, List.length_nil]; omega)) (by first | omega | (simp; omega))).mono ?_))
          first | rintro e w4 rfl hbl4 hfr4 | rintro e w4 ⟨rfl, hbl4, hfr4⟩
          go_wp2_with fail
          go_roundw
          case rel => exact ⟨k + 1, ac ++ escL th2 f ++ [45] ++ escL th2 t, by omega, by go_num, hbl4, HFR3.out.trans hfr4, by simp only [List.length_append, List.length_cons, List.length_nil]; omega, Lib.hid (by rw [Hr.out, ← HE.out]; simp [rowS, HT2.out])⟩
          case measure => simp [intOf]; omega
  | true =>
    simp only [setS, List.length_append, List.length_cons, if_true, List.length_nil] at hlen
    go_enter Tryd.func39, Tryd.ntmps39
    go_wp2_with (go_at_call 36; refine (WriteByte_any B _ (acc) 91 _ (hbl.alloc _) (by first | omega | (simp only [List.length_append, List.length_cons, List.length_nil]; omega)) (by first | omega | (simp; omega)) (by decide) (by decide)).mono ?_)
    first | rintro e w1 rfl hbl1 hfr1 | rintro e w1 ⟨rfl, hbl1, hfr1⟩
    have hbx0 := hfr1.held (heap_alloc_new w _) (by decide) (Nat.ne_of_gt hbl.lt)
    have z2 : w1.cell? ⟨w.heap.size, 2, none⟩ = some (.bool true) := by rw [Lib.cell_of_heap hbx0]; rfl
    have hB1' : B ≤ w1.heap.size := by have := hfr1.size; simp at this; omega
    clear hbx0
    go_wp2_with (go_at_call 36; refine (WriteByte_any B _ (acc ++ [91]) 94 _ (hbl1) (by first | omega | (simp only [List.length_append, List.length_cons, List.length_nil]; omega)) (by first | omega | (simp; omega)) (by decide) (by decide)).mono ?_)
    first | rintro e w1b rfl hbl1b hfr1b | rintro e w1b ⟨rfl, hbl1b, hfr1b⟩
    have hfrx := hfr1.trans hfr1b
    clear z2
    have hbx1 := (hfrx).held (heap_alloc_new w _) (by decide) (Nat.ne_of_gt hbl.lt)
    have z3 : w1b.cell? ⟨w.heap.size, 3, none⟩ = some (.slice ra rs.length rc) := by rw [Lib.cell_of_heap hbx1]; rfl
    have hB1 : B ≤ w1b.heap.size := by have := (hfrx).size; simp at this; omega
    have HR1 := Lib.hid (hr.keep (((Below.refl B w).alloc hB _).trans ((hfrx).below (by simp; omega) (by simp; exact hbl.le))))
    obtain ⟨T, hT⟩ : ∃ T, (acc ++ [91] ++ [94]) ++ rs.flatMap rowS = T := ⟨_, rfl⟩
    have HT0 : Hid ((acc ++ [91] ++ [94]) ++ (rs.drop 0).flatMap rowS = T) := Lib.hid hT
    have HTL : T.length ≤ 15000000 := by rw [← hT]; have h := hlen; simp only [List.length_append, List.length_cons, List.length_nil] at h ⊢; omega
    have HTT := Lib.hid hT
    have HFR0 := Lib.hid hfrx
    have HBX := Lib.hid hbx1
    clear hT hbx1
    go_wp2
    go_loopw [15] (fun q wr => SetRel B g rs T w1b q wr) (fun q _ => rs.length - (intOf q).toNat)
    case atStart => exact ⟨0, acc ++ [91] ++ [94], by omega, rfl, hbl1b, Fr.refl _ _ _ _, by have h := hlen; simp only [List.length_append, List.length_cons, List.length_nil] at h ⊢; omega, HT0⟩
    case round =>
      obtain ⟨k, ac, hk, rfl, hblr, hfrr, hacl, HF⟩ := hrel
      clear HT0 z3
      have hBr : B ≤ wr.heap.size := Nat.le_trans hB1 hfrr.size
      have hbB := hfrr.below hB1 (by simp; exact hbl.le)
      have hgl := hblr.lt
      cases hd : rs.drop k with
      | nil =>
        have h2 : rs.length ≤ k := by simpa using hd
        have HE : Hid (ac = T) := Lib.hid (by rw [← HF.out, hd]; simp)
        clear hd HF
        go_wp2_with (go_at_call 36; refine (WriteByte_any B _ (ac) 93 _ (hblr) (by first | omega | (simp only [List.length_append, List.length_cons, List.length_nil]; omega)) (by first | omega | (simp; omega)) (by decide) (by decide)).mono ?_)
        first | rintro e w9 rfl hbl9 hfr9 | rintro e w9 ⟨rfl, hbl9, hfr9⟩
        go_wp2_with fail
        go_end0
        refine ⟨rfl, ?_, ((((Fr.refl B [g] [5] w).alloc _).trans HFR0.out).trans hfrr).trans hfr9⟩
        have h := hbl9
        rw [HE.out, ← HTT.out] at h
        simpa [setS] using h
      | cons r0 r =>
        obtain ⟨h2, h3, hr0⟩ := ldrop_cons hd
        obtain ⟨n1, n2⟩ := HNE.out r0 (List.mem_of_getElem? h3)
        obtain ⟨b, o, rfl, hbb, c0, c1⟩ := (HR1.out.keep hbB).row h3
        obtain ⟨f, t⟩ := r0
        replace n1 : f ≠ [] := n1
        replace n2 : t ≠ [] := n2
        replace c0 : wr.cell? ⟨b, o + k * 2, none⟩ = some (.string ⟨(f).toArray⟩) := c0
        replace c1 : wr.cell? ⟨b, o + k * 2 + 1, none⟩ = some (.string ⟨(t).toArray⟩) := c1
        have HE : Hid (ac ++ (rowS (f, t) ++ r.flatMap rowS) = T) := Lib.hid (by rw [← HF.out, hd]; rfl)
        have Hr := Lib.hid hr0
        have hsl : ac.length + (escL th2 f).length + (if t = f then 0 else (escL th2 t).length + 1) ≤ 15000000 := by
          have h := congrArg List.length HE.out
          simp only [List.length_append, rowS] at h
          split <;> simp_all <;> omega
        obtain ⟨l1, l2⟩ := HSZ.out (f, t) (List.mem_of_getElem? h3)
        replace l1 : f.length ≤ 1000000 := l1
        replace l2 : t.length ≤ 1000000 := l2
        have q1 := escL_len th2 f
        have q2 := escL_len th2 t
        have N1 := Lib.hid n1; have N2 := Lib.hid n2
        clear hd HF hr0 h3 n1 n2
        go_wp2_with (first | (go_at_call 38; refine (escape_any _ _ _ N1.out (by omega)).mono ?_; rintro e w2 ⟨rfl, rfl⟩; rw [show [94, 45, 92, 91, 93, 47] = th2 from rfl]) | (go_at_call 37; refine (WriteString_any B _ (ac) _ _ (hblr.alloc _) (by first | omega | (simp only [List.length_append, List.length_cons, List.length_nil]; omega)) (by first | omega | (simp only [List.length_append, List.length_cons, List.length_nil]; omega)) (by first | omega | (simp; omega))).mono ?_))
        first | rintro e w2 rfl hbl2 hfr2 | rintro e w2 ⟨rfl, hbl2, hfr2⟩
        have hbx2 := hfr2.held (heap_alloc_new wr _) (by decide) (Nat.ne_of_gt hgl)
        have y0 : w2.cell? ⟨wr.heap.size, 0, none⟩ = some (.string ⟨(f).toArray⟩) := by rw [Lib.cell_of_heap hbx2]; rfl
        have y1 : w2.cell? ⟨wr.heap.size, 1, none⟩ = some (.string ⟨(t).toArray⟩) := by rw [Lib.cell_of_heap hbx2]; rfl
        have hf2 := ((Fr.refl B [g] [5] wr).alloc _).trans hfr2
        have hB2 : B ≤ w2.heap.size := Nat.le_trans hBr hf2.size
        have HFR2 := Lib.hid (hfrr.trans hf2)
        have HBX2 := Lib.hid hbx2
        clear hbx2 hf2 hfr2
        by_cases htf : t = f
        · have HT2 := Lib.hid htf
          subst htf
          go_wp2
          go_roundw
          case rel => exact ⟨k + 1, ac ++ escL th2 t, by omega, by go_num, hbl2, HFR2.out, by simp only [List.length_append]; simp at hsl; omega, Lib.hid (by rw [Hr.out, ← HE.out]; simp [rowS])⟩
          case measure => simp [intOf]; omega
        · have hne : (t == f) = false := by simpa using htf
          have HT2 := Lib.hid htf
          rw [if_neg htf] at hsl
          clear htf
          go_wp2_with (go_at_call 36; refine (WriteByte_any B _ (ac ++ escL th2 f) 45 _ (hbl2) (by first | omega | (simp only [List.length_append, List.length_cons, List.length_nil]; omega)) (by first | omega | (simp; omega)) (by decide) (by decide)).mono ?_)
          first | rintro e w3 rfl hbl3 hfr3 | rintro e w3 ⟨rfl, hbl3, hfr3⟩
          have hbx3 := hfr3.held HBX2.out (by decide) (Nat.ne_of_gt hgl)
          have y2 : w3.cell? ⟨wr.heap.size, 1, none⟩ = some (.string ⟨(t).toArray⟩) := by rw [Lib.cell_of_heap hbx3]; rfl
          have hB3 : B ≤ w3.heap.size := Nat.le_trans hB2 hfr3.size
          have HFR3 := Lib.hid (HFR2.out.trans hfr3)
          clear hbx3 hfr3
          go_wp2_with (first | (go_at_call 38; refine (escape_any _ _ _ N2.out (by omega)).mono ?_; rintro e w4 ⟨rfl, rfl⟩; rw [show [94, 45, 92, 91, 93, 47] = th2 from rfl]) | (go_at_call 37; refine (WriteString_any B _ (ac ++ escL th2 f ++ [45]) _ _ (hbl3) (by first | omega | (simp only [List.length_append, List.length_cons, List.length_nil]; omega)) (by first | omega | (simp only [List.length_append, List.length_cons, List.length_nil]; omega)) (by first | omega | (simp; omega))).mono ?_))
          first | rintro e w4 rfl hbl4 hfr4 | rintro e w4 ⟨rfl, hbl4, hfr4⟩
          go_wp2_with fail
          go_roundw
          case rel => exact ⟨k + 1, ac ++ escL th2 f ++ [45] ++ escL th2 t, by omega, by go_num, hbl4, HFR3.out.trans hfr4, by simp only [List.length_append, List.length_cons, List.length_nil]; omega, Lib.hid (by rw [Hr.out, ← HE.out]; simp [rowS, HT2.out])⟩
          case measure => simp [intOf]; omega
end Go.Proofs.YtpggnfpjjppbmaaDoor
