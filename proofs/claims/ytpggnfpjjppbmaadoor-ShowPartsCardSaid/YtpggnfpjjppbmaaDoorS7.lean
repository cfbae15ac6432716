/- the statements' measure of a tree: gimletlaw0.Rx -/
import Derived.Test.YtpggnfpjjppbmaaDoorRxV
import Derived.Test.YtpggnfpjjppbmaaDoorExt
import Derived.Test.YtpggnfpjjppbmaaDoorR5
set_option maxRecDepth 100000
namespace Go.Proofs.YtpggnfpjjppbmaaDoor
open Go.RowKit
def leftR : List (Str × Str) → Int → Option Int
  | [], n => some n
  | r :: rs, n => if n ≤ r.1.length ∨ n ≤ r.2.length then none else leftR rs (n - 1 - r.1.length - r.2.length)
namespace Rx
mutual
def left : Rx → Int → Int
  | mk _ c _ rs _ _ _ ks, n => if n ≤ c.length ∨ n ≤ rs.length ∨ n ≤ ks.length then -1 else
    (match leftR rs (n - 1 - c.length) with
     | none => -1
     | some m => leftK ks m)
def leftK : List Rx → Int → Int
  | [], n => n
  | x :: r, n => if n < 0 then n else leftK r (left x n)
end
def finK (ks : List Rx) : Option Int → Int
  | none => -1
  | some m => leftK ks m
/-- All that a tree has is of a size that memory bears. -/
def mem1 : Rx → Prop
  | mk _ c _ rs _ _ _ ks => c.length ≤ maxLen ∧ rs.length ≤ maxLen ∧ (∀ r ∈ rs, r.1.length ≤ maxLen ∧ r.2.length ≤ maxLen) ∧ ks.length ≤ maxLen
mutual
def mem : Rx → Prop
  | mk k c ng rs lo hi lz ks => mem1 (mk k c ng rs lo hi lz ks) ∧ memL ks
def memL : List Rx → Prop
  | [] => True
  | x :: r => mem x ∧ memL r
end
end Rx
theorem memL_mem : ∀ {ks : List Rx} {x : Rx}, Rx.memL ks → x ∈ ks → x.mem
  | [], _, _, h => by simp at h
  | y :: r, x, hs, h => by
    simp only [Rx.memL] at hs
    rcases List.mem_cons.1 h with rfl | h
    · exact hs.1
    · exact memL_mem hs.2 h
theorem leftR_le : ∀ (rs : List (Str × Str)) (n m : Int), leftR rs n = some m → m ≤ n ∧ (-1000 ≤ n → n ≤ 1000 → -1000 ≤ m)
  | [], n, m, h => by simp only [leftR] at h; injection h with h; subst h; omega
  | r :: rs, n, m, h => by
    simp only [leftR] at h
    split at h
    · cases h
    · rename_i hc
      have := leftR_le rs _ m h
      refine ⟨by omega, fun a b => ?_⟩
      by_cases hn : -1000 ≤ n - 1 - r.1.length - r.2.length
      · exact this.2 hn (by omega)
      · exfalso; omega
theorem left_bd : ∀ (N : Nat) (x : Rx) (n : Int), x.parts ≤ N → -1000 ≤ n → n ≤ 1000 → -1000 ≤ x.left n ∧ x.left n ≤ 1000
  | 0, x, _, h, _, _ => by have := Rx.parts_pos x; omega
  | N + 1, .mk k c ng rs lo hi lz ks, n, h, h0, h1 => by
    simp only [Rx.parts] at h
    have hk : ∀ (l : List Rx) (m : Int), Rx.partsL l ≤ N → -1000 ≤ m → m ≤ 1000 → -1000 ≤ Rx.leftK l m ∧ Rx.leftK l m ≤ 1000 := by
      intro l
      induction l with
      | nil => intro m _ a b; simp only [Rx.leftK]; exact ⟨a, b⟩
      | cons x r ih =>
        intro m hm a b
        simp only [Rx.partsL] at hm
        simp only [Rx.leftK]
        split
        · exact ⟨a, b⟩
        · have := left_bd N x m (by omega) a b
          exact ih _ (by omega) this.1 this.2
    simp only [Rx.left]
    split
    · omega
    · rename_i hc
      split
      · omega
      · rename_i m hm
        have h2 := leftR_le rs _ m hm
        exact hk ks m (by omega) (h2.2 (by omega) (by omega)) (by omega)
def LrRel (rs : List (Str × Str)) (R : Option Int) (w : World) (s q : Value) (wr : World) : Prop :=
  ∃ (k : Nat) (m : Int), k ≤ rs.length ∧ q = .int .i64 k ∧ s = .int .i64 m ∧ -1000 ≤ m ∧ m ≤ 1000 ∧ Below w.heap.size w wr ∧ Hid (leftR (rs.drop k) m = R)
def LkRel (ks : List Rx) (R : Int) (w : World) (s q : Value) (wr : World) : Prop :=
  ∃ (k : Nat) (m : Int), k ≤ ks.length ∧ q = .int .i64 k ∧ s = .int .i64 m ∧ -1000 ≤ m ∧ m ≤ 1000 ∧ Below w.heap.size w wr ∧ Hid (Rx.leftK (ks.drop k) m = R)
set_option maxHeartbeats 4000000 in
theorem LawRx_any (S : Nat → Prop) : ∀ (N : Nat) (x : Rx), x.parts ≤ N → x.mem → ∀ (cc : List Value) (w : World) (n : Int), RxV w S cc x → -1000 ≤ n → n ≤ 1000 →
    Calls Tryd.prog 9 #[.agg cc.toArray, .int .i64 n] w fun e w' => e = .returned (.int .i64 (x.left n)) ∧ Below w.heap.size w w'
  | 0, x, h, _, _, _, _, _, _, _ => by have := Rx.parts_pos x; omega
  | N + 1, .mk k c ng rs lo hi lz ks, h, hmem, cc, w, n, hv, hn0, hn1 => by
    obtain ⟨ra, rc, ka, kc, rfl, hrs, hx⟩ := hv.open_
    simp only [Rx.parts] at h
    obtain ⟨⟨m1, m2, m3, m4⟩, hmemL⟩ := hmem
    unfold maxLen at m1 m2 m3 m4
    have ih := fun (y : Rx) (hy : y ∈ ks) => LawRx_any S N y (by have := Rx.parts_mem hy; omega) (memL_mem hmemL hy)
    have ihb := fun (y : Rx) (hy : y ∈ ks) (m : Int) => left_bd N y m (by have := Rx.parts_mem hy; omega)
    have IH := Lib.hid ih
    have IHB := Lib.hid ihb
    have M3 := Lib.hid m3
    obtain ⟨w0, hw0⟩ : ∃ w0, w0 = w.alloc (.cells #[.int .i64 k, .string ⟨(c).toArray⟩, .bool ng, .slice ra rs.length rc, .int .i64 lo, .int .i64 hi, .bool lz, .slice ka ks.length kc] 25) := ⟨_, rfl⟩
    have hb0 : Below w.heap.size w w0 := by rw [hw0]; exact (Below.refl _ _).alloc (Nat.le_refl _) _
    have HX := Lib.hid (hx.later hb0)
    have HRS := Lib.hid (hrs.keep (Kept.all hb0)).sl
    have z3 : w0.cell? ⟨w.heap.size, 3, none⟩ = some (.slice ra rs.length rc) := by rw [hw0]; simp
    have z7 : w0.cell? ⟨w.heap.size, 7, none⟩ = some (.slice ka ks.length kc) := by rw [hw0]; simp
    have Z3 := Lib.hid z3
    have Z7 := Lib.hid z7
    clear hx hv hrs ih ihb hmemL z3 z7 m3
    unfold rxc
    by_cases hout : n ≤ c.length ∨ n ≤ rs.length ∨ n ≤ ks.length
    · have HR : Hid ((Rx.mk k c ng rs lo hi lz ks).left n = -1) := Lib.hid (by simp only [Rx.left]; rw [if_pos hout])
      rw [HR.out]
      clear hw0
      go_enter Tryd.func9, Tryd.ntmps9
      go_wp2
      all_goals first
        | (go_ret; exact ⟨rfl, (Below.refl _ _).alloc (Nat.le_refl _) _⟩)
        | (exfalso; omega)
    · have h1 : (c.length : Int) < n := by omega
      have h2 : (rs.length : Int) < n := by omega
      have h3 : (ks.length : Int) < n := by omega
      obtain ⟨R, hR⟩ : ∃ R, leftR rs (n - 1 - c.length) = R := ⟨_, rfl⟩
      have HR0 : Hid (leftR (rs.drop 0) (n - 1 - c.length) = R) := Lib.hid hR
      have HE : Hid ((Rx.mk k c ng rs lo hi lz ks).left n = Rx.finK ks R) := Lib.hid (by simp only [Rx.left]; rw [if_neg hout, hR]; cases R <;> rfl)
      rw [HE.out]
      have hR1 : ∀ m, R = some m → -1000 ≤ m ∧ m ≤ 1000 := fun m hm => by
        have := leftR_le rs _ m (hR.trans hm); omega
      have HR1 := Lib.hid hR1
      clear hout hR hR1
      go_enter Tryd.func9, Tryd.ntmps9
      go_wp2
      rw [← hw0]
      have HW0 := Lib.hid hw0
      clear hw0
      go_loopw [1, 5] (fun s q wr => LrRel rs R w0 s q wr) (fun _ q _ => rs.length - (intOf q).toNat)
      case atStart => exact ⟨0, n - 1 - c.length, by omega, rfl, rfl, by omega, by omega, Below.refl _ _, HR0⟩
      case round =>
        obtain ⟨i, m, hi, rfl, rfl, hm0, hm1, hb, HF⟩ := hrel
        clear HR0
        have hB := hb.size
        have z3 : wr.cell? ⟨w.heap.size, 3, none⟩ = some (.slice ra rs.length rc) := cell_kept hb _ _ Z3.out
        have hbb := hb0.trans (hb.mono hb0.size)
        cases hd : rs.drop i with
        | nil =>
          have hge : rs.length ≤ i := by simpa using hd
          have hie : i = rs.length := by omega
          have HE2 : Hid (R = some m) := Lib.hid (by rw [← HF.out, hd]; rfl)
          have HX1 := Lib.hid (HX.out.later hb)
          have HK0 : Hid (Rx.leftK (ks.drop 0) m = Rx.leftK ks m) := Lib.hid rfl
          obtain ⟨T, hT⟩ : ∃ T, Rx.leftK ks m = T := ⟨_, rfl⟩
          rw [hT] at HK0
          have HFK : Hid (Rx.finK ks R = T) := Lib.hid (by rw [HE2.out]; exact hT)
          have Z7r := Lib.hid (cell_kept hb _ _ Z7.out)
          clear hd HF hT
          subst hie
          clear hge hi
          obtain ⟨wo, rfl⟩ : ∃ wo : World, wo = wr := ⟨_, rfl⟩
          go_wp2
          go_loopw [1, 6] (fun s q wk => LkRel ks T wo s q wk) (fun _ q _ => ks.length - (intOf q).toNat)
          case atStart => exact ⟨0, m, by omega, rfl, rfl, hm0, hm1, Below.refl _ _, HK0⟩
          case round =>
            obtain ⟨j, m', hj, rfl, rfl, hk0, hk1, hbk, HG⟩ := hrel
            clear HK0
            have hBk := hbk.size
            have z7 : wr.cell? ⟨w.heap.size, 7, none⟩ = some (.slice ka ks.length kc) := cell_kept hbk _ _ Z7r.out
            have hbbk := hbb.trans (hbk.mono hbb.size)
            cases hd : ks.drop j with
            | nil =>
              have hge2 : ks.length ≤ j := by simpa using hd
              have HT : Hid (m' = T) := Lib.hid (by rw [← HG.out, hd]; rfl)
              clear hd HG
              go_wp2
              go_ret
              exact ⟨ret_int (by rw [HFK.out]; exact HT.out), hbbk⟩
            | cons y r =>
              obtain ⟨g2, g3, hr⟩ := ldrop_cons hd
              have hym := List.mem_of_getElem? g3
              obtain ⟨yk, yc, yn, yr, yl, yh, yz, ys⟩ := y
              obtain ⟨b, o, ya, yrc, yka, ykc, rfl, hS, hbB, _, _, hyv, c0, c1, c2, c3, c4, c5, c6, c7⟩ := (HX1.out.later hbk).cells g3
              have Hr := Lib.hid hr
              have HG2 : Hid (Rx.leftK (.mk yk yc yn yr yl yh yz ys :: r) m' = T) := Lib.hid (by rw [← HG.out, hd])
              have HYV := Lib.hid hyv
              unfold rxc at HYV
              clear hd HG hr g3 hyv
              by_cases hneg : m' < 0
              · have HT : Hid (m' = T) := Lib.hid (by rw [← HG2.out]; simp only [Rx.leftK]; rw [if_pos hneg])
                go_wp2
                go_ret
                exact ⟨ret_int (by rw [HFK.out]; exact HT.out), hbbk⟩
              · have HT : Hid (Rx.leftK r ((Rx.mk yk yc yn yr yl yh yz ys).left m') = T) := Lib.hid (by rw [← HG2.out]; simp only [Rx.leftK]; rw [if_neg hneg])
                have hpos : 0 ≤ m' := by omega
                obtain ⟨b1, b2⟩ := IHB.out _ hym m' hk0 hk1
                clear hneg
                go_wp2_with (go_at_call 9; refine (IH.out _ hym _ _ m' HYV.out hk0 hk1).mono ?_)
                first | rintro e w2 rfl hb2 | rintro e w2 ⟨rfl, hb2⟩
                go_wp2
                go_roundw
                case rel => exact ⟨j + 1, _, by omega, by go_num, rfl, b1, b2, hbk.trans (hb2.mono hBk), Lib.hid (by rw [Hr.out]; exact HT.out)⟩
                case measure => simp [intOf]; omega
        | cons r0 r =>
          obtain ⟨g2, g3, hr⟩ := ldrop_cons hd
          obtain ⟨b, o, rfl, hbB, c0, c1⟩ := (HRS.out.keep (hb.mono (Nat.le_refl _))).row g3
          obtain ⟨l1, l2⟩ := M3.out r0 (List.mem_of_getElem? g3)
          obtain ⟨f, t⟩ := r0
          replace l1 : f.length ≤ 2 ^ 63 - 1 := l1
          replace l2 : t.length ≤ 2 ^ 63 - 1 := l2
          replace c0 : wr.cell? ⟨b, o + i * 2, none⟩ = some (.string ⟨(f).toArray⟩) := c0
          replace c1 : wr.cell? ⟨b, o + i * 2 + 1, none⟩ = some (.string ⟨(t).toArray⟩) := c1
          have Hr := Lib.hid hr
          have HF2 : Hid (leftR ((f, t) :: r) m = R) := Lib.hid (by rw [← HF.out, hd])
          clear hd HF hr g3
          by_cases hc : m ≤ f.length ∨ m ≤ t.length
          · have HRN : Hid (R = none) := Lib.hid (by rw [← HF2.out]; simp only [leftR]; rw [if_pos hc])
            go_wp2
            all_goals first
              | (go_ret; exact ⟨ret_int (by rw [HRN.out]; rfl), hbb⟩)
              | (exfalso; omega)
          · have HRN : Hid (leftR r (m - 1 - f.length - t.length) = R) := Lib.hid (by rw [← HF2.out]; simp only [leftR]; rw [if_neg hc])
            have hcf : (f.length : Int) < m := by omega
            have hct : (t.length : Int) < m := by omega
            have x3 : ∀ x : ExtOf wr, x.val.cell? ⟨w.heap.size, 3, none⟩ = some (.slice (some ⟨b, o, none⟩) rs.length rc) := ExtOf.cell z3
            have x0 : ∀ x : ExtOf wr, x.val.cell? ⟨b, o + i * 2, none⟩ = some (.string ⟨(f).toArray⟩) := ExtOf.cell c0
            have x1 : ∀ x : ExtOf wr, x.val.cell? ⟨b, o + i * 2 + 1, none⟩ = some (.string ⟨(t).toArray⟩) := ExtOf.cell c1
            clear hc
            go_wp2
            refine wp_region_ext (by kernel_rfl) (by kernel_rfl) ?_
            repeat (go_big_quiet_step ((fail)))
            refine wpQuiet_nil ?_
            rintro _ ⟨xq, rfl⟩
            go_wp2
            go_roundw
            case rel => exact ⟨i + 1, m - 1 - f.length - t.length, by omega, by go_num, by go_num, by omega, by omega, hb.trans (xq.ext.mono hB), Lib.hid (by rw [Hr.out]; exact HRN.out)⟩
            case measure => simp [intOf]; omega
end Go.Proofs.YtpggnfpjjppbmaaDoor
