/- walks of rxread: pattern -/
import Derived.Test.YtpggnfpjjppbmaaX12
set_option maxRecDepth 100000
namespace Go.Proofs.Ytpggnfpjjppbmaa
open Go.RowKit
theorem OwnX.keepG {w w' : World} {B g : Nat} {v : Value} {xs : List Rx} (h : OwnX w B v xs) (hg : w.grownBy w' (some g)) (hB : g < B) : OwnX w' B v xs := by
  obtain ⟨css, h1, h2⟩ := h
  exact ⟨css, own_grownG h1 hg hB, h2.keep (Kept.grown hg fun b hb => by have := hb.1; omega)⟩
theorem OwnX.form {w : World} {B : Nat} {v : Value} {xs : List Rx} (h : OwnX w B v xs) : ∃ (a : Option Addr) (n c : Nat), v = .slice a n c := by
  obtain ⟨css, h1, _⟩ := h
  obtain ⟨a, c, e⟩ := own_form h1
  exact ⟨a, _, c, e⟩
theorem OwnX.lt {w : World} {B : Nat} {v : Value} {xs : List Rx} (h : OwnX w B v xs) : ∀ k, v.ownBlock = some k → B ≤ k ∧ k < w.heap.size := by
  obtain ⟨css, h1, _⟩ := h
  exact fun k hk => h1.lt k hk
def PatRel (n g d : Nat) (w0 : World) (R : Res) (k : Nat) (va vt : Value) (wr : World) : Prop :=
  ∃ (wa : World) (alts terms : List Rx) (r : List Str), OwnX wa w0.heap.size va alts ∧ w0.grownBy wa (some g) ∧ wa.grownBy wr (some g) ∧ OwnX wr wa.heap.size vt terms ∧ Rd wr g r d ∧ r.length < k ∧ r.length ≤ n ∧
    Hid (Rx.smallL alts ∧ Rx.smallL terms) ∧ Rx.partsL alts + Rx.partsL terms + 2 * r.length ≤ 450000 ∧ Hid (patL (fun r => termM (patF n) r d) k alts terms r = R)
theorem RxV.box {w : World} {S : Nat → Prop} {cc : List Value} {x : Rx} (h : RxV w S cc x) : ∃ k c ng rs lo hi lz ks ra rc ka kc, x = .mk k c ng rs lo hi lz ks ∧ cc = rxc k c ng ra (rs : List Row).length rc lo hi lz ka (ks : List Rx).length kc := by
  cases h with
  | mk h1 h2 h3 => exact ⟨_, _, _, _, _, _, _, _, _, _, _, _, rfl, rfl⟩
def SeqRes (y : Rx) (w : World) (e : Ending) (w' : World) : Prop := ∃ cc', e = .returned (.agg cc'.toArray) ∧ RxV w' (fun b => w.heap.size ≤ b) cc' y ∧ Below w.heap.size w w'
theorem Seq_res {B : Nat} {a : Option Addr} {n c : Nat} {xs : List Rx} (w : World) (h : OwnX w B (.slice a n c) xs) (hp : Rx.partsL xs ≤ 1000000) (hs : Rx.smallL xs) :
    Calls Try.prog 17 #[.slice a n c] w fun e w' => SeqRes (seqR xs) w e w' := by
  obtain ⟨rfl, h2⟩ := h.sl
  exact Seq_any _ a c xs w h2 hp hs
theorem Alt_res {B : Nat} {a : Option Addr} {n c : Nat} {xs : List Rx} (w : World) (h : OwnX w B (.slice a n c) xs) (hp : Rx.partsL xs ≤ 1000000) (hs : Rx.smallL xs) :
    Calls Try.prog 16 #[.slice a n c] w fun e w' => SeqRes (altR xs) w e w' := by
  obtain ⟨rfl, h2⟩ := h.sl
  exact Alt_any _ a c xs w h2 hp hs
set_option maxHeartbeats 4000000 in
theorem pattern_step {n : Nat} (hp : PatC n) : PatC (n + 1) := by
  intro g d r w h hlen hd
  obtain ⟨R, hR⟩ : ∃ R, patF (n + 1) r d = R := ⟨_, rfl⟩
  rw [hR]
  have hR2 : patL (fun r => termM (patF n) r d) (r.length + 1) [] [] r = R := hR
  have HR0 := Lib.hid hR2
  have HP := Lib.hid hp
  have hrl := h.ok.2
  obtain ⟨ix, hix⟩ := info_parts rx_info
  clear hR hR2 hp
  obtain ⟨w0, hw0⟩ : ∃ w0, w0 = w.alloc (.cells #[.int .i64 0, .string ⟨#[]⟩, .bool false, .slice none 0 0, .int .i64 0, .int .i64 0, .bool false, .slice none 0 0] 26) := ⟨_, rfl⟩
  obtain ⟨hb0, hz0, hby0⟩ := alloc1 w hw0
  have HRD := Lib.hid (h.later hb0)
  rw [hw0] at HRD
  have HW0 := Lib.hid hw0
  have HBY0 := Lib.hid hby0
  have hgg : w.grownBy w0 (some g) := grown_of_below hb0 _
  have hgr : g < w.heap.size := h.lt
  clear hw0 hby0 h
  have HRD0 : Hid (Rd w0 g r d) := Lib.hid (HW0.out ▸ HRD.out)
  obtain ⟨hz0e, hz0'⟩ : w0.heap.size = w.heap.size + 1 ∧ w.heap.size + 1 ≤ w0.heap.size := ⟨hz0, by omega⟩
  clear hz0e hz0 HRD
  go_enter Try.func30, Try.ntmps30
  go_wp2
  rw [← HW0.out]
  go_loopg [4, 5] (r.length + 1) (fun k va vt wr => PatRel n g d w0 R k va vt wr)
  case atStart => exact ⟨w0, [], [], r, OwnX.nil _ _, grown_refl _ _, grown_refl _ _, OwnX.nil _ _, HRD0.out, by omega, by omega, Lib.hid ⟨trivial, trivial⟩, by simp only [Rx.partsL]; omega, HR0⟩
  case round =>
    clear HR0 HRD0
    obtain ⟨wa, alts, terms, r, hoa, hga, hgr1, hot, hrd, hk, hn, HSM, hpl, HF⟩ := hrel
    obtain ⟨k, rfl⟩ : ∃ k', gk = k' + 1 := ⟨gk - 1, by omega⟩
    have HRD := Lib.hid hrd
    have HOA := Lib.hid hoa
    have HOT := Lib.hid hot
    have hok := hrd.ok.1
    have hza := hga.size
    have hzr := hgr1.size
    clear hoa hot hrd
    go_wp2_with (go_at_call 31; refine (see_any _ HRD.out).mono ?_)
    rintro e w1 ⟨rfl, hst⟩
    have HRD1 := Lib.hid (hst.rd HRD.out)
    have hg1 := grown_trans hgr1 (hst.grown (some g))
    have HOT1 := Lib.hid (HOT.out.later (hst.below _))
    have HOA1 := Lib.hid ((HOA.out.keepG hg1 (by omega)))
    have hz1 : wr.heap.size = w1.heap.size := hst.size.symm
    have hz1' : wr.heap.size ≤ w1.heap.size := by omega
    have hgw1 := grown_trans hga hg1
    clear hst HRD HOT hz1 hgr1
    cases r with
    | nil =>
      have HF2 : Hid (Except.ok (altR (alts ++ [seqR terms]), []) = R) := Lib.hid HF.out
      clear HF hok
      have e0 : hdS [] = [] := rfl
      rw [e0]
      clear e0
      obtain ⟨css, hca, hva⟩ := HOA1.out
      obtain ⟨csst, hct, hvt⟩ := HOT1.out
      obtain ⟨ta, tc, rfl⟩ := own_form hct
      obtain ⟨aa, ac, rfl⟩ := own_form hca
      have HSEQ := Lib.hid (Seq_res w1 ⟨csst, hct, hvt⟩ (by omega) HSM.out.2)
      have HCA := Lib.hid hca
      have HVA := Lib.hid hva
      have hlta := hca.lt
      clear hca hva hct hvt
      go_wp2_with (go_at_call 17; refine HSEQ.out.mono ?_)
      rintro e w5 hq5
      obtain ⟨cc5, rfl, hx5, hb5⟩ := hq5
      obtain ⟨yk, yc, yn, yr, yl, yh, yz, ys, za, zc, zka, zkc, hy, rfl⟩ := hx5.box
      rw [hy] at hx5
      have hbn := (Below.refl w5.heap.size w5).alloc (Nat.le_refl _) (.cells (rxc yk yc yn za yr.length zc yl yh yz zka ys.length zkc).toArray 26)
      have ho6 := own_below (own_below HCA.out hb5) hbn
      have hsl6 := Sl.lit (n := 1) (sz := 8) (heap_alloc_new w5 (.cells (rxc yk yc yn za yr.length zc yl yh yz zka ys.length zkc).toArray 26)) rfl
      have hrv6 := (HVA.out.later hb5).later hbn
      have hcv6 := hx5.later hbn
      have hone := hx5.one
      have hz5 := hb5.size
      unfold rxc at ho6 hsl6 hrv6 hcv6 hone hbn
      have HO6 := Lib.hid ho6; have HSL6 := Lib.hid hsl6; have HRV6 := Lib.hid hrv6; have HCV6 := Lib.hid hcv6; have HONE := Lib.hid hone
      have HY := Lib.hid hy
      clear ho6 hsl6 hrv6 hcv6 hone hx5 hy HSEQ HCA HVA
      unfold rxc
      have hlen6 := Rx.len_parts alts
      go_wp2_with (at_builtin; refine wpList_appM w0.heap.size 26 rfl _ _ 24 rfl Try.underlying24 hix rfl (by decide) rfl HO6.out rfl HSL6.out HONE.out (by omega) (by omega) (by decide) (by simp; omega) ?_)
      intro v7 w7 ho7 hq7 hb7 hmv
      have hox7 : OwnX w7 w0.heap.size v7 (alts ++ [seqR terms]) := by
        rw [HY.out]
        refine OwnX.app (ds := [_]) (m := 1) HRV6.out (.cons (HCV6.out.mono fun b hb _ => ?_) .nil) rfl ?_ hq7 hmv
        · exact ⟨by omega, fun e => by have := (hlta b e).2; omega⟩
        · simpa using ho7
      obtain ⟨s1, s2, s3⟩ := seqR_facts HSM.out.2 (by omega)
      have hpa : Rx.partsL (alts ++ [seqR terms]) ≤ 1000000 := by rw [partsL_app]; simp only [Rx.partsL]; omega
      have hsa : Rx.smallL (alts ++ [seqR terms]) := smallL_app HSM.out.1 ⟨s1, trivial⟩
      obtain ⟨a7, n7, c7, hv7⟩ := hox7.form
      subst hv7
      have HALT := Lib.hid (Alt_res w7 hox7 hpa hsa)
      have hg05 := grown_trans hgw1 (grown_of_below hb5 (some g))
      have hg06 := grown_trans hg05 (grown_of_below hbn (some g))
      have hg07 := cls_grown hg06 hb7 (Nat.le_refl _)
      have hrd7 := ((HRD1.out.later hb5).later hbn).grownHi hq7 (fun k hk => by have := (hlta k hk).1; omega)
      have HRD7 := Lib.hid hrd7
      clear hox7 s1 s2 s3 hpa hsa hq7 hmv ho7 hb7 hrd7 hg05 hg06
      go_wp2_with (go_at_call 16; refine HALT.out.mono ?_)
      rintro e w8 hq8
      obtain ⟨cc8, rfl, hx8, hb8⟩ := hq8
      have hg08 := grown_trans hg07 (grown_of_below hb8 (some g))
      have hg8 := grown_trans hgg hg08
      have HRD8 := Lib.hid (HRD7.out.later hb8)
      have hz07 := hg07.size
      obtain ⟨xk, xc, xn, xr, xl, xh, xz, xs, xa, xrc, xka, xkc, hy8, rfl⟩ := hx8.box
      have HR2 : Hid (Except.ok (Rx.mk xk xc xn xr xl xh xz xs, _) = R) := Lib.hid (hy8 ▸ HF2.out)
      have HR := HR2
      rw [hy8] at hx8
      have HXV := Lib.hid (hx8.mono (S' := fun b => w.heap.size ≤ b ∧ b ≠ w.heap.size) fun b hb hlt => by constructor <;> omega)
      obtain ⟨f0, f1, f2, f3, f4, f5, f6, f7, f8⟩ := bx_cells (c := []) (box_grown HBY0.out hg08 (by omega))
      clear hx8 hy8 HALT hg07 HRD7
      unfold rxc at HXV ⊢
      go_wp2
      refine bodyPost_ret (v := .tuple #[.agg #[.int .i64 xk, .string ⟨(xc).toArray⟩, .bool xn, .slice xa xr.length xrc, .int .i64 xl, .int .i64 xh, .bool xz, .slice xka xs.length xkc], .int .i64 0]) (by simp [results, Try.results30, go_sem, f0, f1, f2, f3, f4, f5, f6, f7]) rfl ?_
      refine ⟨?_, ?_⟩
      · iterate 8 (refine grown_setNew ?_ (by first | omega | (simp; done) | (simp; omega)) _)
        exact hg8
      rw [← HR.out]
      refine ⟨rxc xk xc xn xa xr.length xrc xl xh xz xka xs.length xkc, rfl, RxV.mono (S := fun b => w.heap.size ≤ b ∧ b ≠ w.heap.size) (fun b hb _ => hb.1) ?_, ?_⟩
      · iterate 8 (refine RxV.keep (Kept.setLow _ (fun b hb => by have : w.heap.size ≤ b ∧ b ≠ w.heap.size := hb; first | omega | (simp; done) | (simp; omega))) ?_)
        exact HXV.out
      · iterate 8 (refine RdT.setHi ?_ (by first | omega | (simp; done) | (simp; omega)) _)
        exact HRD8.out
    | cons c r1 =>
      by_cases h41 : c = [41]
      · subst h41
        have HF2 : Hid (Except.ok (altR (alts ++ [seqR terms]), [41] :: r1) = R) := Lib.hid HF.out
        clear HF hok
        rw [hdS_cons]
        obtain ⟨css, hca, hva⟩ := HOA1.out
        obtain ⟨csst, hct, hvt⟩ := HOT1.out
        obtain ⟨ta, tc, rfl⟩ := own_form hct
        obtain ⟨aa, ac, rfl⟩ := own_form hca
        have HSEQ := Lib.hid (Seq_res w1 ⟨csst, hct, hvt⟩ (by omega) HSM.out.2)
        have HCA := Lib.hid hca
        have HVA := Lib.hid hva
        have hlta := hca.lt
        clear hca hva hct hvt
        go_wp2_with (go_at_call 17; refine HSEQ.out.mono ?_)
        rintro e w5 hq5
        obtain ⟨cc5, rfl, hx5, hb5⟩ := hq5
        obtain ⟨yk, yc, yn, yr, yl, yh, yz, ys, za, zc, zka, zkc, hy, rfl⟩ := hx5.box
        rw [hy] at hx5
        have hbn := (Below.refl w5.heap.size w5).alloc (Nat.le_refl _) (.cells (rxc yk yc yn za yr.length zc yl yh yz zka ys.length zkc).toArray 26)
        have ho6 := own_below (own_below HCA.out hb5) hbn
        have hsl6 := Sl.lit (n := 1) (sz := 8) (heap_alloc_new w5 (.cells (rxc yk yc yn za yr.length zc yl yh yz zka ys.length zkc).toArray 26)) rfl
        have hrv6 := (HVA.out.later hb5).later hbn
        have hcv6 := hx5.later hbn
        have hone := hx5.one
        have hz5 := hb5.size
        unfold rxc at ho6 hsl6 hrv6 hcv6 hone hbn
        have HO6 := Lib.hid ho6; have HSL6 := Lib.hid hsl6; have HRV6 := Lib.hid hrv6; have HCV6 := Lib.hid hcv6; have HONE := Lib.hid hone
        have HY := Lib.hid hy
        clear ho6 hsl6 hrv6 hcv6 hone hx5 hy HSEQ HCA HVA
        unfold rxc
        have hlen6 := Rx.len_parts alts
        go_wp2_with (at_builtin; refine wpList_appM w0.heap.size 26 rfl _ _ 24 rfl Try.underlying24 hix rfl (by decide) rfl HO6.out rfl HSL6.out HONE.out (by omega) (by omega) (by decide) (by simp; omega) ?_)
        intro v7 w7 ho7 hq7 hb7 hmv
        have hox7 : OwnX w7 w0.heap.size v7 (alts ++ [seqR terms]) := by
          rw [HY.out]
          refine OwnX.app (ds := [_]) (m := 1) HRV6.out (.cons (HCV6.out.mono fun b hb _ => ?_) .nil) rfl ?_ hq7 hmv
          · exact ⟨by omega, fun e => by have := (hlta b e).2; omega⟩
          · simpa using ho7
        obtain ⟨s1, s2, s3⟩ := seqR_facts HSM.out.2 (by omega)
        have hpa : Rx.partsL (alts ++ [seqR terms]) ≤ 1000000 := by rw [partsL_app]; simp only [Rx.partsL]; omega
        have hsa : Rx.smallL (alts ++ [seqR terms]) := smallL_app HSM.out.1 ⟨s1, trivial⟩
        obtain ⟨a7, n7, c7, hv7⟩ := hox7.form
        subst hv7
        have HALT := Lib.hid (Alt_res w7 hox7 hpa hsa)
        have hg05 := grown_trans hgw1 (grown_of_below hb5 (some g))
        have hg06 := grown_trans hg05 (grown_of_below hbn (some g))
        have hg07 := cls_grown hg06 hb7 (Nat.le_refl _)
        have hrd7 := ((HRD1.out.later hb5).later hbn).grownHi hq7 (fun k hk => by have := (hlta k hk).1; omega)
        have HRD7 := Lib.hid hrd7
        clear hox7 s1 s2 s3 hpa hsa hq7 hmv ho7 hb7 hrd7 hg05 hg06
        go_wp2_with (go_at_call 16; refine HALT.out.mono ?_)
        rintro e w8 hq8
        obtain ⟨cc8, rfl, hx8, hb8⟩ := hq8
        have hg08 := grown_trans hg07 (grown_of_below hb8 (some g))
        have hg8 := grown_trans hgg hg08
        have HRD8 := Lib.hid (HRD7.out.later hb8)
        have hz07 := hg07.size
        obtain ⟨xk, xc, xn, xr, xl, xh, xz, xs, xa, xrc, xka, xkc, hy8, rfl⟩ := hx8.box
        have HR2 : Hid (Except.ok (Rx.mk xk xc xn xr xl xh xz xs, _) = R) := Lib.hid (hy8 ▸ HF2.out)
        have HR := HR2
        rw [hy8] at hx8
        have HXV := Lib.hid (hx8.mono (S' := fun b => w.heap.size ≤ b ∧ b ≠ w.heap.size) fun b hb hlt => by constructor <;> omega)
        obtain ⟨f0, f1, f2, f3, f4, f5, f6, f7, f8⟩ := bx_cells (c := []) (box_grown HBY0.out hg08 (by omega))
        clear hx8 hy8 HALT hg07 HRD7
        unfold rxc at HXV ⊢
        go_wp2
        refine bodyPost_ret (v := .tuple #[.agg #[.int .i64 xk, .string ⟨(xc).toArray⟩, .bool xn, .slice xa xr.length xrc, .int .i64 xl, .int .i64 xh, .bool xz, .slice xka xs.length xkc], .int .i64 0]) (by simp [results, Try.results30, go_sem, f0, f1, f2, f3, f4, f5, f6, f7]) rfl ?_
        refine ⟨?_, ?_⟩
        · iterate 8 (refine grown_setNew ?_ (by first | omega | (simp; done) | (simp; omega)) _)
          exact hg8
        rw [← HR.out]
        refine ⟨rxc xk xc xn xa xr.length xrc xl xh xz xka xs.length xkc, rfl, RxV.mono (S := fun b => w.heap.size ≤ b ∧ b ≠ w.heap.size) (fun b hb _ => hb.1) ?_, ?_⟩
        · iterate 8 (refine RxV.keep (Kept.setLow _ (fun b hb => by have : w.heap.size ≤ b ∧ b ≠ w.heap.size := hb; first | omega | (simp; done) | (simp; omega))) ?_)
          exact HXV.out
        · iterate 8 (refine RdT.setHi ?_ (by first | omega | (simp; done) | (simp; omega)) _)
          exact HRD8.out
      by_cases h124 : c = [124]
      · subst h124
        have HF2 : Hid (patL (fun r => termM (patF n) r d) k (alts ++ [seqR terms]) [] r1 = R) := Lib.hid HF.out
        clear HF hok
        rw [hdS_cons]
        obtain ⟨i, hi9, c1, hf1, hr2⟩ := HRD1.out.step
        obtain ⟨w2, hw2⟩ : ∃ w2, w2 = w1.setCell ⟨g, 1, none⟩ (.int .i64 ((i : Int) + 1)) := ⟨_, rfl⟩
        have HRD2 : Hid (Rd w2 g r1 d) := Lib.hid (hw2 ▸ hr2)
        have hgw2 : w0.grownBy w2 (some g) := hw2 ▸ grown_set hgw1 _ _
        have HOT2 : Hid (OwnX w2 wa.heap.size _ terms) := Lib.hid (hw2 ▸ HOT1.out.setLow (by simp; omega) _)
        have HOA2 : Hid (OwnX w2 w0.heap.size _ alts) := Lib.hid (hw2 ▸ HOA1.out.setLow (by simp; omega) _)
        have hz2 : w1.heap.size ≤ w2.heap.size := by rw [hw2]; simp [World.setCell]
        go_upto_region 13 with fail
        rw [← hw2]
        clear hw2 c1 hf1 hr2 HRD1 HOT1 HOA1 hgw1
        have hl2 : r1.length < k ∧ r1.length ≤ n := by simp at hk hn; omega
        simp only [List.length_cons] at hpl
        obtain ⟨css, hca, hva⟩ := HOA2.out
        obtain ⟨csst, hct, hvt⟩ := HOT2.out
        obtain ⟨ta, tc, rfl⟩ := own_form hct
        obtain ⟨aa, ac, rfl⟩ := own_form hca
        have HSEQ := Lib.hid (Seq_res w2 ⟨csst, hct, hvt⟩ (by omega) HSM.out.2)
        have HCA := Lib.hid hca
        have HVA := Lib.hid hva
        have hlta := hca.lt
        clear hca hva hct hvt
        go_wp2_with (go_at_call 17; refine HSEQ.out.mono ?_)
        rintro e w5 hq5
        obtain ⟨cc5, rfl, hx5, hb5⟩ := hq5
        obtain ⟨yk, yc, yn, yr, yl, yh, yz, ys, za, zc, zka, zkc, hy, rfl⟩ := hx5.box
        rw [hy] at hx5
        have hbn := (Below.refl w5.heap.size w5).alloc (Nat.le_refl _) (.cells (rxc yk yc yn za yr.length zc yl yh yz zka ys.length zkc).toArray 26)
        have ho6 := own_below (own_below HCA.out hb5) hbn
        have hsl6 := Sl.lit (n := 1) (sz := 8) (heap_alloc_new w5 (.cells (rxc yk yc yn za yr.length zc yl yh yz zka ys.length zkc).toArray 26)) rfl
        have hrv6 := (HVA.out.later hb5).later hbn
        have hcv6 := hx5.later hbn
        have hone := hx5.one
        have hz5 := hb5.size
        unfold rxc at ho6 hsl6 hrv6 hcv6 hone hbn
        have HO6 := Lib.hid ho6; have HSL6 := Lib.hid hsl6; have HRV6 := Lib.hid hrv6; have HCV6 := Lib.hid hcv6; have HONE := Lib.hid hone
        have HY := Lib.hid hy
        clear ho6 hsl6 hrv6 hcv6 hone hx5 hy HSEQ HCA HVA
        unfold rxc
        have hlen6 := Rx.len_parts alts
        go_wp2_with (at_builtin; refine wpList_appM w0.heap.size 26 rfl _ _ 24 rfl Try.underlying24 hix rfl (by decide) rfl HO6.out rfl HSL6.out HONE.out (by omega) (by omega) (by decide) (by simp; omega) ?_)
        intro v7 w7 ho7 hq7 hb7 hmv
        have hox7 : OwnX w7 w0.heap.size v7 (alts ++ [seqR terms]) := by
          rw [HY.out]
          refine OwnX.app (ds := [_]) (m := 1) HRV6.out (.cons (HCV6.out.mono fun b hb _ => ?_) .nil) rfl ?_ hq7 hmv
          · exact ⟨by omega, fun e => by have := (hlta b e).2; omega⟩
          · simpa using ho7
        obtain ⟨s1, s2, s3⟩ := seqR_facts HSM.out.2 (by omega)
        have hpa : Rx.partsL (alts ++ [seqR terms]) + Rx.partsL [] + 2 * r1.length ≤ 450000 := by rw [partsL_app]; simp only [Rx.partsL]; omega
        have hsa : Rx.smallL (alts ++ [seqR terms]) := smallL_app HSM.out.1 ⟨s1, trivial⟩
        have hg05 := grown_trans hgw2 (grown_of_below hb5 (some g))
        have hg06 := grown_trans hg05 (grown_of_below hbn (some g))
        have hg07 := cls_grown hg06 hb7 (Nat.le_refl _)
        have hrd7 := ((HRD2.out.later hb5).later hbn).grownHi hq7 (fun k hk => by have := (hlta k hk).1; omega)
        have HSM7 := Lib.hid (And.intro hsa (show Rx.smallL [] from trivial))
        clear s1 s2 s3 hsa hq7 hmv ho7 hb7 hg05 hg06
        go_wp2
        go_roundg k
        case measure => omega
        case rel => exact ⟨w7, _, [], r1, hox7, hg07, grown_refl _ _, OwnX.nil _ _, hrd7, hl2.1, hl2.2, HSM7, hpa, HF2⟩
      have g41 : (c == [41]) = false := beq_eq_false_iff_ne.2 h41
      have g124 : (c == [124]) = false := beq_eq_false_iff_ne.2 h124
      have g0 : List.isEmpty c = false := by have := (hok c (List.mem_cons_self ..)).1; cases c <;> simp at this ⊢
      have HF1 : Hid ((match termM (patF n) (c :: r1) d with | .error e => .error e | .ok (x, r2) => patL (fun r => termM (patF n) r d) k alts (terms ++ [x]) r2) = R) := Lib.hid (by rw [← HF.out]; simp only [patL, if_neg h41, if_neg h124]; rfl)
      clear HF h41 h124
      rw [hdS_cons]
      have hl1 : (c :: r1).length ≤ n := hn
      have HTM := Lib.hid (term_any HP.out w1 HRD1.out hl1 hd)
      go_wp2_with (go_at_call 46; refine HTM.out.mono ?_)
      rintro e w2 hq
      clear HTM
      cases htm : termM (patF n) (c :: r1) d with
      | error q =>
        rw [htm] at hq
        obtain ⟨hq2, rfl, r9, hrd9⟩ := hq
        have hq0 : q ≠ 0 := term_err (pat_err n) (c :: r1) d q htm
        have HR : Hid (Except.error q = R) := Lib.hid (by rw [← HF1.out]; simp only [htm])
        have hg02 := grown_trans hgw1 hq2
        have hby2 := box_grown HBY0.out hg02 (by omega)
        have hb6 : Below w2.heap.size w2 (w2.alloc (.cells #[.int .i64 0, .string ⟨#[]⟩, .bool false, .slice none 0 0, .int .i64 0, .int .i64 0, .bool false, .slice none 0 0] 26)) := (Below.refl _ _).alloc (Nat.le_refl _) _
        have HRD6 := Lib.hid (hrd9.later hb6)
        have hg6 := grown_trans (grown_trans hgg hg02) (grown_of_below hb6 (some g))
        have ne1 : (q != 0) = true := by simp [bne, hq0]
        obtain ⟨f0, f1, f2, f3, f4, f5, f6, f7, f8⟩ := bx_cells (c := []) ((hb6.block _ (heap_lt hby2)).trans hby2)
        clear htm hby2 hrd9 hb6 hq2
        unfold rxv0
        go_wp2
        refine bodyPost_ret (v := .tuple #[.agg #[.int .i64 0, .string ⟨([]).toArray⟩, .bool false, .slice none 0 0, .int .i64 0, .int .i64 0, .bool false, .slice none 0 0], .int .i64 q]) (by simp [results, Try.results30, go_sem, f0, f1, f2, f3, f4, f5, f6, f7]) rfl ?_
        refine ⟨?_, ?_⟩
        · iterate 8 (refine grown_setNew ?_ (by first | omega | (simp; done) | (simp; omega)) _)
          exact hg6
        · rw [← HR.out]
          refine ⟨rfl, ?_⟩
          iterate 8 (refine RdE.setHi ?_ (by first | omega | (simp; done) | (simp; omega)) _)
          exact ⟨_, HRD6.out⟩
      | ok y =>
        obtain ⟨x, r3⟩ := y
        rw [htm] at hq
        obtain ⟨hq2, cc, rfl, hxv, hrd2⟩ := hq
        obtain ⟨⟨t1, t2, t3, t4⟩, t5⟩ := term_facts (pat_facts n) htm hok (by have := HRD1.out.ok.2; omega) (Nat.le_refl _)
        have HF2 : Hid (patL (fun r => termM (patF n) r d) k alts (terms ++ [x]) r3 = R) := Lib.hid (by rw [← HF1.out]; simp only [htm])
        simp only [List.length_cons] at t2 t5 hpl hk hn
        have hpa : Rx.partsL alts + Rx.partsL (terms ++ [x]) + 2 * r3.length ≤ 450000 := by rw [partsL_app]; simp only [Rx.partsL]; omega
        have HSM2 := Lib.hid (And.intro HSM.out.1 (smallL_app HSM.out.2 (show Rx.smallL [x] from ⟨t1, trivial⟩)))
        obtain ⟨yk, yc, yn, yr, yl, yh, yz, ys, za, zc, zka, zkc, hy, rfl⟩ := hxv.box
        subst hy
        have hgw2 := grown_trans hgw1 hq2
        have hg2 := grown_trans hg1 hq2
        have hot2 := HOT1.out.keepG hq2 (by omega)
        have hltt := HOT1.out.lt
        obtain ⟨va, vn, vc, hvt⟩ := hot2.form
        subst hvt
        obtain ⟨csst, hct, hvt⟩ := hot2
        have hbx : Below w2.heap.size w2 (w2.alloc (.cells (rxc yk yc yn za yr.length zc yl yh yz zka ys.length zkc).toArray 26)) := (Below.refl _ _).alloc (Nat.le_refl _) _
        have hbn := hbx.trans ((Below.refl (w2.alloc (.cells (rxc yk yc yn za yr.length zc yl yh yz zka ys.length zkc).toArray 26)).heap.size _).alloc (Nat.le_refl _) (.cells (rxc yk yc yn za yr.length zc yl yh yz zka ys.length zkc).toArray 26) |>.mono hbx.size)
        have ho6 := own_below hct hbn
        have hsl6 := Sl.lit (n := 1) (sz := 8) (heap_alloc_new (w2.alloc (.cells (rxc yk yc yn za yr.length zc yl yh yz zka ys.length zkc).toArray 26)) (.cells (rxc yk yc yn za yr.length zc yl yh yz zka ys.length zkc).toArray 26)) rfl
        rw [show (w2.alloc (.cells (rxc yk yc yn za yr.length zc yl yh yz zka ys.length zkc).toArray 26)).heap.size = w2.heap.size + 1 from by simp] at hsl6
        have hrv6 := hvt.later hbn
        have hcv6 := hxv.later hbn
        have hone := hxv.one
        have hrd6 := hrd2.later hbn
        have hz2 := hq2.size
        have hzn := hbn.size
        unfold rxc at ho6 hsl6 hrv6 hcv6 hone hbn hrd6 hzn
        have HO6 := Lib.hid ho6; have HSL6 := Lib.hid hsl6; have HRV6 := Lib.hid hrv6; have HCV6 := Lib.hid hcv6; have HONE := Lib.hid hone; have HRD6 := Lib.hid hrd6
        have hg6 := grown_trans hg2 (grown_of_below hbn (some g))
        have hgw6 := grown_trans hgw2 (grown_of_below hbn (some g))
        have hlt6 := Rx.len_parts terms
        clear ho6 hsl6 hrv6 hcv6 hone hxv hct hvt hrd2 hrd6 hbx hbn htm t1 t3
        unfold rxc
        go_wp2_with (at_builtin; refine wpList_appM wa.heap.size 26 rfl _ _ 24 rfl Try.underlying24 hix rfl (by decide) rfl HO6.out rfl HSL6.out HONE.out (by omega) (by omega) (by decide) (by simp; omega) ?_)
        intro v7 w7 ho7 hq7 hb7 hmv
        have hox7 : OwnX w7 wa.heap.size v7 (terms ++ [.mk yk yc yn yr yl yh yz ys]) := by
          refine OwnX.app (ds := [_]) (m := 1) HRV6.out (.cons (HCV6.out.mono fun b hb _ => ?_) .nil) rfl ?_ hq7 hmv
          · exact ⟨by omega, fun e => by have := (hltt b e).2; omega⟩
          · simpa using ho7
        have hrd7 := HRD6.out.grownHi hq7 (fun k hk => by have := (hltt k hk).1; omega)
        have hg7 := cls_grown hg6 hb7 (Nat.le_refl _)
        have hoa7 := HOA1
        clear ho7 hq7 hb7 hmv
        go_wp2
        go_roundg k
        case measure => omega
        case rel => exact ⟨wa, alts, _, r3, HOA.out, hga, hg7, hox7, hrd7, by omega, by omega, HSM2, hpa, HF2⟩
end Go.Proofs.Ytpggnfpjjppbmaa
