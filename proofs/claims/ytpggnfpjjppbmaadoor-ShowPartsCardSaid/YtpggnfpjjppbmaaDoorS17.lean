/- walks of the references: ref15.show, Show -/
import Derived.Test.YtpggnfpjjppbmaaDoorS16
set_option maxRecDepth 100000
namespace Go.Proofs.YtpggnfpjjppbmaaDoor
open Go.RowKit
def RsC (S : Nat → Prop) (x : Rx) : Prop := ∀ (cc : List Value) (w : World), RxV w S cc x → x.tell.length ≤ 10000000 →
    Calls Tryd.prog 25 #[.agg cc.toArray] w fun e w' => e = .returned (.string ⟨(x.tell).toArray⟩) ∧ Below w.heap.size w w'
def RsRel (ks : List Rx) (f : List Rx → Str) (T : Str) (w1 : World) (s q : Value) (wr : World) : Prop :=
  ∃ (k : Nat) (acc : Str), k ≤ ks.length ∧ q = .int .i64 k ∧ s = .string ⟨(acc).toArray⟩ ∧ Below w1.heap.size w1 wr ∧ Hid (acc ++ f (ks.drop k) = T)
theorem len1' {α : Type} {l : List α} (h : l.length = 1) : ∃ a, l = [a] := by
  match l, h with
  | [a], _ => exact ⟨a, rfl⟩
set_option maxHeartbeats 8000000 in
theorem RShow_any (S : Nat → Prop) : ∀ (N : Nat) (x : Rx), x.parts ≤ N → x.small → x.wf = true → RsC S x
  | 0, x, h, _, _ => by have := Rx.parts_pos x; omega
  | N + 1, .mk k c ng rs lo hi lz ks, h, hsm, hwf => by
    intro cc w hv hlen
    obtain ⟨ra, rc, ka, kc, rfl, hrs, hx⟩ := hv.open_
    obtain ⟨⟨s1, s2, s3, s4⟩, hsmL⟩ := hsm
    obtain ⟨hf, hwl⟩ := wf_mk hwf
    simp only [Rx.parts] at h
    have ih : ∀ y ∈ ks, RsC S y := fun y hy => RShow_any S N y (by have := Rx.parts_mem hy; omega) (smallL_mem hsmL hy) (wfL_mem hwl hy)
    have IH := Lib.hid ih
    obtain ⟨w0, hw0⟩ : ∃ w0, w0 = w.alloc (.cells #[.int .i64 k, .string ⟨(c).toArray⟩, .bool ng, .slice ra rs.length rc, .int .i64 lo, .int .i64 hi, .bool lz, .slice ka ks.length kc] 25) := ⟨_, rfl⟩
    have hb0 : Below w.heap.size w w0 := by rw [hw0]; exact (Below.refl _ _).alloc (Nat.le_refl _) _
    have hbx0 : w0.heap[w.heap.size]? = some (.cells #[.int .i64 k, .string ⟨(c).toArray⟩, .bool ng, .slice ra rs.length rc, .int .i64 lo, .int .i64 hi, .bool lz, .slice ka ks.length kc] 25 (0, 0)) := by rw [hw0]; exact heap_alloc_new w _
    have HX := Lib.hid (hx.later hb0)
    have HRS := Lib.hid (hrs.keep (Kept.all hb0)).sl
    have HBX := Lib.hid hbx0
    have HS3 := Lib.hid s3
    have hlw := heap_lt hbx0
    clear hx hv hrs ih hsmL hbx0 s3 hwl hwf
    unfold rxc
    rcases kind_le hf with rfl | rfl | rfl | rfl | rfl | rfl | rfl | rfl | rfl | rfl | rfl | rfl
    · obtain ⟨T, hT⟩ : ∃ T, (Rx.mk 0 c ng rs lo hi lz ks).tell = T := ⟨_, rfl⟩
      have HT0 : Hid ([] ++ Rx.tellL (ks.drop 0) = T) := Lib.hid (by rw [← hT]; simp [Rx.tell])
      rw [hT] at hlen ⊢
      clear hT hf
      go_enter Tryd.func25, Tryd.ntmps25
      go_wp2
      rw [← hw0]
      clear hw0
      go_loopw [3, 4] (fun s q wr => RsRel ks Rx.tellL T w0 s q wr) (fun _ q _ => ks.length - (intOf q).toNat)
      case atStart => exact ⟨0, [], by omega, rfl, rfl, Below.refl _ _, HT0⟩
      case round =>
        obtain ⟨i, acc, hik, rfl, rfl, hb, HF⟩ := hrel
        clear HT0
        have hB := hb.size
        have hbb := hb0.trans (hb.mono hb0.size)
        have z7 := (bx_cells ((hb.block _ (heap_lt HBX.out)).trans HBX.out)).2.2.2.2.2.2.2.1
        cases hd : ks.drop i with
        | nil =>
          have h2 : ks.length ≤ i := by simpa using hd
          have HE : Hid (acc = T) := Lib.hid (by rw [← HF.out, hd]; simp [Rx.tellL])
          clear hd HF
          go_wp2
          go_ret
          exact ⟨ret_str HE.out, hbb⟩
        | cons y r =>
          have hym := fun h3 => IH.out y (List.mem_of_getElem? (i := i) h3)
          have HYM := Lib.hid hym
          clear hym
          obtain ⟨h2, h3, hr⟩ := ldrop_cons hd
          obtain ⟨yk, yc, yn, yr, yl, yh, yz, ys⟩ := y
          obtain ⟨b, o, ya, yrc, yka, ykc, rfl, hS, hbB, _, _, hyv, c0, c1, c2, c3, c4, c5, c6, c7⟩ := (HX.out.later hb).cells h3
          have hyp := Rx.parts_mem (List.mem_of_getElem? h3)
          have Hr := Lib.hid hr
          have HYV := Lib.hid hyv
          unfold rxc at HYV
          have HYM2 := Lib.hid (HYM.out h3)
          have HE : Hid (acc ++ (Rx.tell (.mk yk yc yn yr yl yh yz ys) ++ Rx.tellL r) = T) := Lib.hid (by rw [← HF.out, hd]; rfl)
          have hle : acc.length + (Rx.tell (.mk yk yc yn yr yl yh yz ys)).length ≤ 10000000 := by
            have h := congrArg List.length HE.out
            simp only [List.length_append] at h; omega
          clear hd HF hr h3 hyv HYM
          go_wp2_with (go_at_call 25; refine (HYM2.out _ _ HYV.out (by omega)).mono ?_; rintro e w1 ⟨rfl, hb1⟩)
          go_roundw
          case rel => exact ⟨i + 1, acc ++ Rx.tell (.mk yk yc yn yr yl yh yz ys), by omega, by go_num, rfl, bel2 hb hb1, Lib.hid (by rw [Hr.out, ← HE.out]; simp)⟩
          case measure => simp [intOf]; omega
    · have h1 : 1 < ks.length := by simp [fieldsB] at hf; exact hf.1.2
      obtain ⟨T, hT⟩ : ∃ T, (Rx.mk 1 c ng rs lo hi lz ks).tell = T := ⟨_, rfl⟩
      rw [hT] at hlen ⊢
      obtain ⟨y0, hy0⟩ : ∃ y0, ks[0]? = some y0 := ⟨_, List.getElem?_eq_getElem (by omega)⟩
      have HT0 : Hid (y0.tell ++ Rx.tellA true (ks.drop 1) = T) := Lib.hid (by
        rw [← hT]
        cases ks with
        | nil => simp at h1
        | cons a l => simp at hy0; subst hy0; simp [Rx.tell, Rx.tellA])
      have IHY := Lib.hid (IH.out y0 (List.mem_of_getElem? hy0))
      obtain ⟨yk, yc, yn, yr, yl, yh, yz, ys⟩ := y0
      obtain ⟨b, o, ya, yrc, yka, ykc, rfl, hS, hbB, _, _, hyv, c0, c1, c2, c3, c4, c5, c6, c7⟩ := HX.out.cells hy0
      simp only [Nat.zero_mul, Nat.add_zero] at c0 c1 c2 c3 c4 c5 c6 c7
      have HYV := Lib.hid hyv
      unfold rxc at HYV
      have hle : (Rx.tell (.mk yk yc yn yr yl yh yz ys)).length ≤ 10000000 := by
        have h := congrArg List.length HT0.out
        simp only [List.length_append] at h; omega
      clear hT hf hyv hy0
      rw [hw0] at c0 c1 c2 c3 c4 c5 c6 c7 HYV
      go_enter Tryd.func25, Tryd.ntmps25
      go_wp2_with (go_at_call 25; refine (IHY.out _ _ HYV.out hle).mono ?_)
      first | rintro e w1 rfl hb1 | rintro e w1 ⟨rfl, hb1⟩
      rw [← hw0] at hb1
      replace hb1 : Below w0.heap.size w0 w1 := hb1.mono (by rw [hw0]; simp)
      have HX1 := Lib.hid (HX.out.later hb1)
      have hbw1 := bel2 hb0 hb1
      have HBX1 := Lib.hid ((hb1.block _ (heap_lt HBX.out)).trans HBX.out)
      clear hb1 c0 c1 c2 c3 c4 c5 c6 c7 HYV hw0
      go_wp2
      go_loopw [5, 6] (fun s q wr => RsRel ks (Rx.tellA true) T w1 s q wr) (fun _ q _ => ks.length - (intOf q).toNat)
      case atStart => exact ⟨1, _, by omega, rfl, rfl, Below.refl _ _, HT0⟩
      case round =>
        obtain ⟨i, acc, hik, rfl, rfl, hb, HF⟩ := hrel
        clear HT0
        have hB := hb.size
        have hbb := bel2 hbw1 hb
        have z7 := (bx_cells ((hb.block _ (heap_lt HBX1.out)).trans HBX1.out)).2.2.2.2.2.2.2.1
        cases hd : ks.drop i with
        | nil =>
          have h2 : ks.length ≤ i := by simpa using hd
          have HE : Hid (acc = T) := Lib.hid (by rw [← HF.out, hd]; simp [Rx.tellA])
          clear hd HF
          go_wp2
          go_ret
          exact ⟨ret_str HE.out, hbb⟩
        | cons y r =>
          have hym := fun h3 => IH.out y (List.mem_of_getElem? (i := i) h3)
          have HYM := Lib.hid hym
          clear hym
          obtain ⟨h2, h3, hr⟩ := ldrop_cons hd
          obtain ⟨zk, zc, zn, zr, zl, zh, zz, zs⟩ := y
          obtain ⟨b', o', za, zrc, zka, zkc, hbo, hS', hbB', _, _, hzv, d0, d1, d2, d3, d4, d5, d6, d7⟩ := (HX1.out.later hb).cells h3
          obtain ⟨rfl, rfl⟩ : b = b' ∧ o = o' := by simpa using hbo
          have Hr := Lib.hid hr
          have HZV := Lib.hid hzv
          unfold rxc at HZV
          have HYM2 := Lib.hid (HYM.out h3)
          have HE : Hid (acc ++ ([124] ++ (Rx.tell (.mk zk zc zn zr zl zh zz zs) ++ Rx.tellA true r)) = T) := Lib.hid (by rw [← HF.out, hd]; rfl)
          have hle2 : acc.length + 1 + (Rx.tell (.mk zk zc zn zr zl zh zz zs)).length ≤ 10000000 := by
            have h := congrArg List.length HE.out
            simp only [List.length_append, List.length_cons, List.length_nil] at h; omega
          clear hd HF hr h3 hzv HYM hbo
          go_wp2_with (go_at_call 25; refine (HYM2.out _ _ HZV.out (by omega)).mono ?_; rintro e w2 ⟨rfl, hb2⟩)
          go_roundw
          case rel => exact ⟨i + 1, acc ++ [124] ++ Rx.tell (.mk zk zc zn zr zl zh zz zs), by omega, by go_num, by simp, bel2 hb hb2, Lib.hid (by rw [Hr.out, ← HE.out]; simp)⟩
          case measure => simp [intOf]; omega
    · have hp : properB c = true := by simp [fieldsB] at hf; exact hf.2
      have HP := Lib.hid (proper_ne hp)
      clear hp hf
      go_enter Tryd.func25, Tryd.ntmps25
      go_wp2_with (go_at_call 44; refine (sign_eq _ HP.out s1 (by decide)).mono ?_; rintro e w1 ⟨rfl, hb1⟩)
      rw [← hw0] at hb1
      go_ret
      exact ⟨ret_str (by simp [Rx.tell]; rfl), bel2 hb0 (hb1.mono (by rw [hw0]; simp))⟩
    · skip
      go_enter Tryd.func25, Tryd.ntmps25
      go_wp2
      rw [← hw0]
      go_ret
      exact ⟨ret_str (by simp [Rx.tell]), hb0⟩
    · have hp : rowsB rs = true := by simp [fieldsB] at hf; exact hf.2
      have HNE := Lib.hid (rows_ne hp)
      have HT : Hid ((Rx.mk 4 c ng rs lo hi lz ks).tell = setS ng rs) := Lib.hid (by simp [Rx.tell])
      rw [HT.out] at hlen ⊢
      rw [hw0] at HRS
      clear hp hf
      go_enter Tryd.func25, Tryd.ntmps25
      go_wp2_with (go_at_call 45; refine (RSet_any _ _ _ _ rs _ _ _ _ _ _ _ _ HRS.out HNE.out HS3.out s2 hlen).mono ?_; rintro e w1 ⟨rfl, hb1⟩)
      rw [← hw0] at hb1
      go_ret
      exact ⟨rfl, bel2 hb0 (hb1.mono (by rw [hw0]; simp))⟩
    · have h1 : ks.length = 1 := by simp [fieldsB] at hf; exact hf.2
      obtain ⟨y, rfl⟩ := len1' h1
      obtain ⟨yk, yc, yn, yr, yl, yh, yz, ys⟩ := y
      obtain ⟨b, o, ya, yrc, yka, ykc, rfl, hS, hbB, _, _, hyv, c0, c1, c2, c3, c4, c5, c6, c7⟩ := HX.out.cells (m := 0) rfl
      simp only [Nat.zero_mul, Nat.add_zero] at c0 c1 c2 c3 c4 c5 c6 c7
      have HYV := Lib.hid hyv
      unfold rxc at HYV
      have IHY := Lib.hid (IH.out (.mk yk yc yn yr yl yh yz ys) (by simp))
      simp only [List.length_cons, List.length_nil, Nat.zero_add] at hw0 HBX ⊢
      clear hyv h1
      have HT : Hid ((Rx.mk 5 c ng rs lo hi lz [.mk yk yc yn yr yl yh yz ys]).tell = 40 :: ((Rx.mk yk yc yn yr yl yh yz ys).tell ++ [41])) := Lib.hid (by simp [Rx.tell, Rx.tellL])
      rw [HT.out] at hlen ⊢
      simp only [List.length_append, List.length_cons, List.length_nil] at hlen
      rw [hw0] at c0 c1 c2 c3 c4 c5 c6 c7 HYV
      clear hf
      go_enter Tryd.func25, Tryd.ntmps25
      go_wp2_with (go_at_call 25; refine (IHY.out _ _ HYV.out (by omega)).mono ?_; rintro e w1 ⟨rfl, hb1⟩)
      rw [← hw0] at hb1
      go_ret
      exact ⟨ret_str (by simp), bel2 hb0 (hb1.mono (by rw [hw0]; simp))⟩
    · have h1 : ks.length = 1 := by simp [fieldsB] at hf; exact hf.2
      obtain ⟨y, rfl⟩ := len1' h1
      obtain ⟨yk, yc, yn, yr, yl, yh, yz, ys⟩ := y
      obtain ⟨b, o, ya, yrc, yka, ykc, rfl, hS, hbB, _, _, hyv, c0, c1, c2, c3, c4, c5, c6, c7⟩ := HX.out.cells (m := 0) rfl
      simp only [Nat.zero_mul, Nat.add_zero] at c0 c1 c2 c3 c4 c5 c6 c7
      have HYV := Lib.hid hyv
      unfold rxc at HYV
      have IHY := Lib.hid (IH.out (.mk yk yc yn yr yl yh yz ys) (by simp))
      simp only [List.length_cons, List.length_nil, Nat.zero_add] at hw0 HBX ⊢
      clear hyv h1
      have HT : Hid ((Rx.mk 6 c ng rs lo hi lz [.mk yk yc yn yr yl yh yz ys]).tell = 40 :: 63 :: 58 :: ((Rx.mk yk yc yn yr yl yh yz ys).tell ++ [41])) := Lib.hid (by simp [Rx.tell, Rx.tellL])
      rw [HT.out] at hlen ⊢
      simp only [List.length_append, List.length_cons, List.length_nil] at hlen
      rw [hw0] at c0 c1 c2 c3 c4 c5 c6 c7 HYV
      clear hf
      go_enter Tryd.func25, Tryd.ntmps25
      go_wp2_with (go_at_call 25; refine (IHY.out _ _ HYV.out (by omega)).mono ?_; rintro e w1 ⟨rfl, hb1⟩)
      rw [← hw0] at hb1
      go_ret
      exact ⟨ret_str (by simp), bel2 hb0 (hb1.mono (by rw [hw0]; simp))⟩
    · simp only [fieldsB] at hf
      rw [if_neg (by decide), if_neg (by decide), if_pos trivial] at hf
      simp only [Bool.and_eq_true, decide_eq_true_eq] at hf
      obtain ⟨⟨_, g1⟩, g2, g3, g4⟩ := hf
      have h1 : ks.length = 1 := by
        match ks, g1 with
        | [y], _ => rfl
      obtain ⟨y, rfl⟩ := len1' h1
      obtain ⟨yk, yc, yn, yr, yl, yh, yz, ys⟩ := y
      obtain ⟨b, o, ya, yrc, yka, ykc, rfl, hS, hbB, _, _, hyv, c0, c1, c2, c3, c4, c5, c6, c7⟩ := HX.out.cells (m := 0) rfl
      simp only [Nat.zero_mul, Nat.add_zero] at c0 c1 c2 c3 c4 c5 c6 c7
      have HYV := Lib.hid hyv
      unfold rxc at HYV
      have IHY := Lib.hid (IH.out (.mk yk yc yn yr yl yh yz ys) (by simp))
      simp only [List.length_cons, List.length_nil, Nat.zero_add] at hw0 HBX ⊢
      clear hyv h1
      have HT : Hid ((Rx.mk 7 c ng rs lo hi lz [.mk yk yc yn yr yl yh yz ys]).tell = (Rx.mk yk yc yn yr yl yh yz ys).tell ++ oftS lo hi ++ (if lz = true then [63] else [])) := Lib.hid (by simp [Rx.tell, Rx.tellL])
      rw [HT.out] at hlen ⊢
      simp only [List.length_append] at hlen
      have HG4 := Lib.hid g4
      have HO : Hid (∀ w' : World, Calls Tryd.prog 46 #[.int .i64 lo, .int .i64 hi] w' fun e w'' => e = .returned (.string ⟨(oftS lo hi).toArray⟩) ∧ Below w'.heap.size w' w'') := Lib.hid (fun w' => many_any lo hi w' g2 g3 g4)
      have hbx := bx_cells HBX.out
      have x4 : ∀ x : ExtOf w0, x.val.cell? ⟨w.heap.size, 4, none⟩ = some (.int .i64 lo) := ExtOf.cell hbx.2.2.2.2.1
      have x5 : ∀ x : ExtOf w0, x.val.cell? ⟨w.heap.size, 5, none⟩ = some (.int .i64 hi) := ExtOf.cell hbx.2.2.2.2.2.1
      have x6 : ∀ x : ExtOf w0, x.val.cell? ⟨w.heap.size, 6, none⟩ = some (.bool lz) := ExtOf.cell hbx.2.2.2.2.2.2.1
      have x7 : ∀ x : ExtOf w0, x.val.cell? ⟨w.heap.size, 7, none⟩ = some (.slice (some ⟨b, o, none⟩) 1 kc) := ExtOf.cell hbx.2.2.2.2.2.2.2.1
      have y0 := fun x : ExtOf w0 => ExtOf.cell c0 x
      have y1 := fun x : ExtOf w0 => ExtOf.cell c1 x
      have y2 := fun x : ExtOf w0 => ExtOf.cell c2 x
      have y3 := fun x : ExtOf w0 => ExtOf.cell c3 x
      have y4 := fun x : ExtOf w0 => ExtOf.cell c4 x
      have y5 := fun x : ExtOf w0 => ExtOf.cell c5 x
      have y6 := fun x : ExtOf w0 => ExtOf.cell c6 x
      have y7 := fun x : ExtOf w0 => ExtOf.cell c7 x
      have HYX : Hid (∀ x : ExtOf w0, RxV x.val S (rxc yk yc yn ya yr.length yrc yl yh yz yka ys.length ykc) (.mk yk yc yn yr yl yh yz ys)) := Lib.hid (fun x => HYV.out.later x.ext)
      unfold rxc at HYX
      have hle : (Rx.tell (.mk yk yc yn yr yl yh yz ys)).length ≤ 10000000 := by omega
      clear hbx g4 c0 c1 c2 c3 c4 c5 c6 c7 HYV
      go_enter Tryd.func25, Tryd.ntmps25
      go_wp2
      rw [← hw0]
      clear hw0
      refine wp_region_ext (by kernel_rfl) (by kernel_rfl) ?_
      repeat (go_big_quiet_step ((first | (go_at_call 25; exact ext_call (IHY.out _ _ (HYX.out _) hle)) | (go_at_call 46; exact ext_call (HO.out _)))))
      refine wpQuiet_nil ?_
      rintro _ ⟨xq, rfl⟩
      have z6 := x6 xq
      have hbb := hb0.trans (xq.ext.mono hb0.size)
      cases lz with
      | false =>
        go_wp2
        go_ret
        exact ⟨ret_str (by simp), hbb⟩
      | true =>
        go_wp2
        go_ret
        exact ⟨ret_str (by simp), hbb⟩
    · skip
      go_enter Tryd.func25, Tryd.ntmps25
      go_wp2
      rw [← hw0]
      go_ret
      exact ⟨ret_str (by simp [Rx.tell]), hb0⟩
    · skip
      go_enter Tryd.func25, Tryd.ntmps25
      go_wp2
      rw [← hw0]
      go_ret
      exact ⟨ret_str (by simp [Rx.tell]), hb0⟩
    · skip
      go_enter Tryd.func25, Tryd.ntmps25
      go_wp2
      rw [← hw0]
      go_ret
      exact ⟨ret_str (by simp [Rx.tell]), hb0⟩
    · skip
      go_enter Tryd.func25, Tryd.ntmps25
      go_wp2
      rw [← hw0]
      go_ret
      exact ⟨ret_str (by simp [Rx.tell]), hb0⟩
theorem RxRShow_yes (S : Nat → Prop) (x : Rx) (cc : List Value) (w : World) (hm : x.parts ≤ 1000000) (hsm : x.small) (hv : RxV w S cc x) (hmay : mayB x = true) (hlen : x.tell.length ≤ 10000000) :
    Calls Tryd.prog 12 #[.agg cc.toArray] w fun e w' => e = .returned (.tuple #[.string ⟨(x.tell).toArray⟩, .int .i64 0]) ∧ Below w.heap.size w w' := by
  have hwf : x.wf = true := by
    have h := hmay; simp only [mayB, okB, Bool.and_eq_true] at h; exact h.1.1
  have HWF := Lib.hid hwf
  have HLEN := Lib.hid hlen
  clear hwf hlen
  obtain ⟨k, c, ng, rs, lo, hi, lz, ks⟩ := x
  obtain ⟨ra, rc, ka, kc, rfl, hrs, hx⟩ := hv.open_
  obtain ⟨w0, hw0⟩ : ∃ w0, w0 = w.alloc (.cells #[.int .i64 k, .string ⟨(c).toArray⟩, .bool ng, .slice ra rs.length rc, .int .i64 lo, .int .i64 hi, .bool lz, .slice ka ks.length kc] 25) := ⟨_, rfl⟩
  have hb0 : Below w.heap.size w w0 := by rw [hw0]; exact (Below.refl _ _).alloc (Nat.le_refl _) _
  have hbx0 : w0.heap[w.heap.size]? = some (.cells #[.int .i64 k, .string ⟨(c).toArray⟩, .bool ng, .slice ra rs.length rc, .int .i64 lo, .int .i64 hi, .bool lz, .slice ka ks.length kc] 25 (0, 0)) := by rw [hw0]; exact heap_alloc_new w _
  have HV0 := Lib.hid (hv.later hb0)
  have HSM := Lib.hid hsm
  have HMAY := Lib.hid hmay
  have HBX0 := Lib.hid hbx0
  have HM := Lib.hid hm
  rw [hw0] at HV0
  have HW0 := Lib.hid hw0
  clear hv hrs hx hsm hmay hbx0 hw0 hm
  unfold rxc at HV0 ⊢
  go_enter Tryd.func12, Tryd.ntmps12
  go_wp2_with (go_at_call 24; refine (RxRMay_any S _ _ _ HM.out HSM.out HV0.out).mono ?_)
  first | rintro e w1 rfl hb1 | rintro e w1 ⟨rfl, hb1⟩
  rw [HMAY.out]
  rw [← HW0.out] at hb1
  replace hb1 : Below w0.heap.size w0 w1 := hb1.mono (by rw [HW0.out]; simp)
  have hbw1 := bel2 hb0 hb1
  have HV1 := Lib.hid ((show RxV w0 S _ _ by rw [HW0.out]; exact HV0.out).later hb1)
  obtain ⟨e0, e1, e2, e3, e4, e5, e6, e7, _⟩ := bx_cells ((hb1.block _ (heap_lt HBX0.out)).trans HBX0.out)
  clear hb1
  go_wp2_with (go_at_call 25; refine (RShow_any S _ _ (Nat.le_refl _) HSM.out HWF.out _ _ HV1.out HLEN.out).mono ?_; rintro e w2 ⟨rfl, hb2⟩)
  go_ret2
  exact ⟨rfl, bel2 hbw1 hb2⟩
theorem RxRShow_no (S : Nat → Prop) (x : Rx) (cc : List Value) (w : World) (hm : x.parts ≤ 1000000) (hsm : x.small) (hv : RxV w S cc x) (hmay : mayB x = false) :
    Calls Tryd.prog 12 #[.agg cc.toArray] w fun e w' => e = .returned (.tuple #[.string ⟨([]).toArray⟩, .int .i64 10]) ∧ Below w.heap.size w w' := by
  obtain ⟨k, c, ng, rs, lo, hi, lz, ks⟩ := x
  obtain ⟨ra, rc, ka, kc, rfl, hrs, hx⟩ := hv.open_
  obtain ⟨w0, hw0⟩ : ∃ w0, w0 = w.alloc (.cells #[.int .i64 k, .string ⟨(c).toArray⟩, .bool ng, .slice ra rs.length rc, .int .i64 lo, .int .i64 hi, .bool lz, .slice ka ks.length kc] 25) := ⟨_, rfl⟩
  have hb0 : Below w.heap.size w w0 := by rw [hw0]; exact (Below.refl _ _).alloc (Nat.le_refl _) _
  have hbx0 : w0.heap[w.heap.size]? = some (.cells #[.int .i64 k, .string ⟨(c).toArray⟩, .bool ng, .slice ra rs.length rc, .int .i64 lo, .int .i64 hi, .bool lz, .slice ka ks.length kc] 25 (0, 0)) := by rw [hw0]; exact heap_alloc_new w _
  have HV0 := Lib.hid (hv.later hb0)
  have HSM := Lib.hid hsm
  have HMAY := Lib.hid hmay
  have HBX0 := Lib.hid hbx0
  have HM := Lib.hid hm
  rw [hw0] at HV0
  have HW0 := Lib.hid hw0
  clear hv hrs hx hsm hmay hbx0 hw0 hm
  unfold rxc at HV0 ⊢
  go_enter Tryd.func12, Tryd.ntmps12
  go_wp2_with (go_at_call 24; refine (RxRMay_any S _ _ _ HM.out HSM.out HV0.out).mono ?_)
  first | rintro e w1 rfl hb1 | rintro e w1 ⟨rfl, hb1⟩
  rw [HMAY.out]
  rw [← HW0.out] at hb1
  replace hb1 : Below w0.heap.size w0 w1 := hb1.mono (by rw [HW0.out]; simp)
  have hbw1 := bel2 hb0 hb1
  go_wp2
  go_ret2
  exact ⟨rfl, hbw1⟩
end Go.Proofs.YtpggnfpjjppbmaaDoor
