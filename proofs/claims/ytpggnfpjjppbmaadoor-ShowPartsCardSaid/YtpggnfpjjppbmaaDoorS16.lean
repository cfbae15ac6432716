/- walks of the references: ref15.set -/
import Derived.Test.YtpggnfpjjppbmaaDoorS15
set_option maxRecDepth 100000
namespace Go.Proofs.YtpggnfpjjppbmaaDoor
open Go.RowKit
theorem sign_eq {th c : Str} (w : World) (hc : c ≠ []) (hs : c.length ≤ 1000000) (ht : th.length ≤ 1000) :
    Calls Tryd.prog 44 #[.string ⟨(c).toArray⟩, .string ⟨(th).toArray⟩] w fun e w' => e = .returned (.string ⟨(escL th c).toArray⟩) ∧ Below w.heap.size w w' :=
  (sign_any th c w hc (by omega) ht).mono fun _ _ ⟨h1, n, h2⟩ => ⟨h1, by rw [h2]; exact below_drewN (Below.refl _ _) n⟩
def StRel (rs : List (Str × Str)) (T : Str) (w1 : World) (s q : Value) (wr : World) : Prop :=
  ∃ (k : Nat) (acc : Str), k ≤ rs.length ∧ q = .int .i64 k ∧ s = .string ⟨(acc).toArray⟩ ∧ Below w1.heap.size w1 wr ∧ acc.length ≤ 20000000 ∧ Hid (acc ++ (rs.drop k).flatMap rowS = T)
set_option maxHeartbeats 4000000 in
theorem RSet_any (kd : Int) (c : Str) (ng : Bool) (ra : Option Addr) (rs : List (Str × Str)) (rc : Nat) (lo hi : Int) (lz : Bool) (ka : Option Addr) (kn kc : Nat) (w : World)
    (hr : Sl w w.heap.size ra 2 rs.length (rcells rs)) (hne : ∀ r ∈ rs, r.1 ≠ [] ∧ r.2 ≠ []) (hsz : ∀ r ∈ rs, r.1.length ≤ 1000000 ∧ r.2.length ≤ 1000000) (hrl : rs.length ≤ 1000000)
    (hlen : (setS ng rs).length ≤ 10000000) :
    Calls Tryd.prog 45 #[.agg #[.int .i64 kd, .string ⟨(c).toArray⟩, .bool ng, .slice ra rs.length rc, .int .i64 lo, .int .i64 hi, .bool lz, .slice ka kn kc]] w fun e w' => e = .returned (.string ⟨(setS ng rs).toArray⟩) ∧ Below w.heap.size w w' := by
  have HNE := Lib.hid hne
  have HSZ := Lib.hid hsz
  have HR1 := Lib.hid hr
  obtain ⟨w0, hw0⟩ : ∃ w0, w0 = w.alloc (.cells #[.int .i64 kd, .string ⟨(c).toArray⟩, .bool ng, .slice ra rs.length rc, .int .i64 lo, .int .i64 hi, .bool lz, .slice ka kn kc] 25) := ⟨_, rfl⟩
  have hb0 : Below w.heap.size w w0 := by rw [hw0]; exact (Below.refl _ _).alloc (Nat.le_refl _) _
  have Z3 : Hid (w0.cell? ⟨w.heap.size, 3, none⟩ = some (.slice ra rs.length rc)) := Lib.hid (by rw [hw0]; simp)
  clear hne hsz hr
  cases ng with
  | false =>
    obtain ⟨T, hT⟩ : ∃ T, ([91]) ++ rs.flatMap rowS = T := ⟨_, rfl⟩
    have HT0 : Hid (([91]) ++ (rs.drop 0).flatMap rowS = T) := Lib.hid hT
    have HTL : T.length ≤ 10000000 := by rw [← hT]; have h := hlen; simp only [setS, Bool.false_eq_true, if_false, if_true, List.length_append, List.length_cons, List.length_nil] at h ⊢; omega
    have HTT := Lib.hid hT
    clear hT hlen
    go_enter Tryd.func45, Tryd.ntmps45
    go_wp2
    rw [← hw0]
    clear hw0
    go_loopw [3, 4] (fun s q wr => StRel rs T w0 s q wr) (fun _ q _ => rs.length - (intOf q).toNat)
    case atStart => exact ⟨0, [91], by omega, rfl, rfl, Below.refl _ _, by simp, HT0⟩
    case round =>
      obtain ⟨k, ac, hk, rfl, rfl, hb, hacl, HF⟩ := hrel
      clear HT0
      have hB := hb.size
      have hbb := hb0.trans (hb.mono hb0.size)
      have z3 := cell_kept hb _ _ Z3.out
      cases hd : rs.drop k with
      | nil =>
        have h2 : rs.length ≤ k := by simpa using hd
        have HE : Hid (ac = T) := Lib.hid (by rw [← HF.out, hd]; simp)
        clear hd HF
        go_wp2
        go_ret
        exact ⟨ret_str (by rw [HE.out, ← HTT.out]; simp [setS]), hbb⟩
      | cons r0 r =>
        obtain ⟨h2, h3, hr0⟩ := ldrop_cons hd
        obtain ⟨n1, n2⟩ := HNE.out r0 (List.mem_of_getElem? h3)
        obtain ⟨b, o, rfl, hbB, c0, c1⟩ := (HR1.out.keep hbb).row h3
        obtain ⟨f, t⟩ := r0
        replace n1 : f ≠ [] := n1
        replace n2 : t ≠ [] := n2
        replace c0 : wr.cell? ⟨b, o + k * 2, none⟩ = some (.string ⟨(f).toArray⟩) := c0
        replace c1 : wr.cell? ⟨b, o + k * 2 + 1, none⟩ = some (.string ⟨(t).toArray⟩) := c1
        have HE : Hid (ac ++ (rowS (f, t) ++ r.flatMap rowS) = T) := Lib.hid (by rw [← HF.out, hd]; rfl)
        have Hr := Lib.hid hr0
        have hsl : ac.length + (escL th2 f).length + (if t = f then 0 else (escL th2 t).length + 1) ≤ 10000000 := by
          have h := congrArg List.length HE.out
          simp only [List.length_append, rowS] at h
          split <;> simp_all <;> omega
        obtain ⟨l1, l2⟩ := HSZ.out (f, t) (List.mem_of_getElem? h3)
        replace l1 : f.length ≤ 1000000 := l1
        replace l2 : t.length ≤ 1000000 := l2
        have N1 := Lib.hid n1; have N2 := Lib.hid n2
        clear hd HF hr0 h3 n1 n2
        go_wp2_with (go_at_call 44; refine (sign_eq _ N1.out l1 (by decide)).mono ?_; rintro e w2 ⟨rfl, hb2⟩; rw [show [94, 45, 92, 91, 93, 47] = th2 from rfl]; have hbr2 := bel2 hb hb2; have y3 := cell_kept hb2 _ _ z3; have y0 := cell_kept hb2 _ _ c0; have y1 := cell_kept hb2 _ _ c1)
        by_cases htf : t = f
        · have HT2 := Lib.hid htf
          subst htf
          go_wp2
          go_quiet (fail)
          go_wp2
          go_roundw
          case rel => exact ⟨k + 1, ac ++ escL th2 t, by omega, by go_num, rfl, below_drewN hbr2 _, by simp only [List.length_append]; simp at hsl; omega, Lib.hid (by rw [Hr.out, ← HE.out]; simp [rowS])⟩
          case measure => simp [intOf]; omega
        · have hne : (t == f) = false := by simpa using htf
          have HT2 := Lib.hid htf
          rw [if_neg htf] at hsl
          clear htf
          go_wp2
          go_quiet (fail)
          go_wp2_with (go_at_call 44; refine (sign_eq _ N2.out l2 (by decide)).mono ?_; rintro e w3 ⟨rfl, hb3⟩; rw [show [94, 45, 92, 91, 93, 47] = th2 from rfl])
          go_roundw
          case rel => exact ⟨k + 1, ac ++ escL th2 f ++ [45] ++ escL th2 t, by omega, by go_num, by simp, bel2 (below_drewN hbr2 _) hb3, by simp only [List.length_append, List.length_cons, List.length_nil]; omega, Lib.hid (by rw [Hr.out, ← HE.out]; simp [rowS, HT2.out])⟩
          case measure => simp [intOf]; omega
  | true =>
    obtain ⟨T, hT⟩ : ∃ T, ([91, 94]) ++ rs.flatMap rowS = T := ⟨_, rfl⟩
    have HT0 : Hid (([91, 94]) ++ (rs.drop 0).flatMap rowS = T) := Lib.hid hT
    have HTL : T.length ≤ 10000000 := by rw [← hT]; have h := hlen; simp only [setS, Bool.false_eq_true, if_false, if_true, List.length_append, List.length_cons, List.length_nil] at h ⊢; omega
    have HTT := Lib.hid hT
    clear hT hlen
    go_enter Tryd.func45, Tryd.ntmps45
    go_wp2
    rw [← hw0]
    clear hw0
    go_loopw [3, 4] (fun s q wr => StRel rs T w0 s q wr) (fun _ q _ => rs.length - (intOf q).toNat)
    case atStart => exact ⟨0, [91, 94], by omega, rfl, rfl, Below.refl _ _, by simp, HT0⟩
    case round =>
      obtain ⟨k, ac, hk, rfl, rfl, hb, hacl, HF⟩ := hrel
      clear HT0
      have hB := hb.size
      have hbb := hb0.trans (hb.mono hb0.size)
      have z3 := cell_kept hb _ _ Z3.out
      cases hd : rs.drop k with
      | nil =>
        have h2 : rs.length ≤ k := by simpa using hd
        have HE : Hid (ac = T) := Lib.hid (by rw [← HF.out, hd]; simp)
        clear hd HF
        go_wp2
        go_ret
        exact ⟨ret_str (by rw [HE.out, ← HTT.out]; simp [setS]), hbb⟩
      | cons r0 r =>
        obtain ⟨h2, h3, hr0⟩ := ldrop_cons hd
        obtain ⟨n1, n2⟩ := HNE.out r0 (List.mem_of_getElem? h3)
        obtain ⟨b, o, rfl, hbB, c0, c1⟩ := (HR1.out.keep hbb).row h3
        obtain ⟨f, t⟩ := r0
        replace n1 : f ≠ [] := n1
        replace n2 : t ≠ [] := n2
        replace c0 : wr.cell? ⟨b, o + k * 2, none⟩ = some (.string ⟨(f).toArray⟩) := c0
        replace c1 : wr.cell? ⟨b, o + k * 2 + 1, none⟩ = some (.string ⟨(t).toArray⟩) := c1
        have HE : Hid (ac ++ (rowS (f, t) ++ r.flatMap rowS) = T) := Lib.hid (by rw [← HF.out, hd]; rfl)
        have Hr := Lib.hid hr0
        have hsl : ac.length + (escL th2 f).length + (if t = f then 0 else (escL th2 t).length + 1) ≤ 10000000 := by
          have h := congrArg List.length HE.out
          simp only [List.length_append, rowS] at h
          split <;> simp_all <;> omega
        obtain ⟨l1, l2⟩ := HSZ.out (f, t) (List.mem_of_getElem? h3)
        replace l1 : f.length ≤ 1000000 := l1
        replace l2 : t.length ≤ 1000000 := l2
        have N1 := Lib.hid n1; have N2 := Lib.hid n2
        clear hd HF hr0 h3 n1 n2
        go_wp2_with (go_at_call 44; refine (sign_eq _ N1.out l1 (by decide)).mono ?_; rintro e w2 ⟨rfl, hb2⟩; rw [show [94, 45, 92, 91, 93, 47] = th2 from rfl]; have hbr2 := bel2 hb hb2; have y3 := cell_kept hb2 _ _ z3; have y0 := cell_kept hb2 _ _ c0; have y1 := cell_kept hb2 _ _ c1)
        by_cases htf : t = f
        · have HT2 := Lib.hid htf
          subst htf
          go_wp2
          go_quiet (fail)
          go_wp2
          go_roundw
          case rel => exact ⟨k + 1, ac ++ escL th2 t, by omega, by go_num, rfl, below_drewN hbr2 _, by simp only [List.length_append]; simp at hsl; omega, Lib.hid (by rw [Hr.out, ← HE.out]; simp [rowS])⟩
          case measure => simp [intOf]; omega
        · have hne : (t == f) = false := by simpa using htf
          have HT2 := Lib.hid htf
          rw [if_neg htf] at hsl
          clear htf
          go_wp2
          go_quiet (fail)
          go_wp2_with (go_at_call 44; refine (sign_eq _ N2.out l2 (by decide)).mono ?_; rintro e w3 ⟨rfl, hb3⟩; rw [show [94, 45, 92, 91, 93, 47] = th2 from rfl])
          go_roundw
          case rel => exact ⟨k + 1, ac ++ escL th2 f ++ [45] ++ escL th2 t, by omega, by go_num, by simp, bel2 (below_drewN hbr2 _) hb3, by simp only [List.length_append, List.length_cons, List.length_nil]; omega, Lib.hid (by rw [Hr.out, ← HE.out]; simp [rowS, HT2.out])⟩
          case measure => simp [intOf]; omega
end Go.Proofs.YtpggnfpjjppbmaaDoor
