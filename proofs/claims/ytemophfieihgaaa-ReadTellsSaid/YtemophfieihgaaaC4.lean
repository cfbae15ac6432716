/- walks of rxtree: flat -/
import Derived.Test.YtemophfieihgaaaC3
set_option maxRecDepth 100000
namespace Go.Proofs.Ytemophfieihgaaa
open Go.RowKit
def flatL (kd : Int) (xs : List Rx) : List Rx := xs.flatMap fun x => if x.kind = kd then x.kids else [x]
theorem flatL_snoc (kd : Int) (xs : List Rx) (x : Rx) : flatL kd (xs ++ [x]) = flatL kd xs ++ (if x.kind = kd then x.kids else [x]) := by simp [flatL]
theorem flatL_len (kd : Int) : ∀ xs : List Rx, (flatL kd xs).length ≤ Rx.partsL xs
  | [] => by simp [flatL]
  | x :: r => by
    have ih := flatL_len kd r
    have he : flatL kd (x :: r) = (if x.kind = kd then x.kids else [x]) ++ flatL kd r := by simp [flatL]
    have hp := Rx.parts_pos x
    have hk : x.kids.length + 1 ≤ x.parts := by
      obtain ⟨_, _, _, _, _, _, _, ks⟩ := x
      have := Rx.len_parts ks
      simp only [Rx.kids, Rx.parts]; omega
    rw [he, List.length_append]
    simp only [Rx.partsL]
    split
    · omega
    · simp; omega
theorem partsL_take (xs : List Rx) : ∀ i : Nat, Rx.partsL (xs.take i) ≤ Rx.partsL xs := by
  induction xs with
  | nil => intro i; simp
  | cons x r ih =>
    intro i
    cases i with
    | zero => simp [Rx.partsL]
    | succ i => have := ih i; simp only [List.take_succ_cons, Rx.partsL]; omega
def FlRel (kd : Int) (xs : List Rx) (w : World) (v q : Value) (wr : World) : Prop :=
  ∃ i : Nat, i ≤ xs.length ∧ q = .int .i64 i ∧ Below w.heap.size w wr ∧ OwnX wr w.heap.size v (flatL kd (xs.take i))
theorem Kept.trans {S : Nat → Prop} {a b c : World} (h1 : Kept S a b) (h2 : Kept S b c) : Kept S a c :=
  ⟨Nat.le_trans h1.1 h2.1, fun k hk hl => (h2.2 k hk (Nat.lt_of_lt_of_le hl h1.1)).trans (h1.2 k hk hl)⟩
theorem Kept.sub {S S' : Nat → Prop} {a b : World} (h : Kept S a b) (hS : ∀ k, S' k → S k) : Kept S' a b := ⟨h.1, fun k hk hl => h.2 k (hS k hk) hl⟩
theorem own_setOther {w : World} {B : Nat} {e : TypeId} {sz : Nat} {v : Value} {n : Nat} {xs : List Value} (h : w.ownsRow B e sz v n xs) {a : Addr} (ha : v.ownBlock ≠ some a.block) (u : Value) : (w.setCell a u).ownsRow B e sz v n xs :=
  ownsRow_setCell_other h ha u
set_option maxHeartbeats 1000000 in
theorem flat_any (S : Nat → Prop) (kd : Int) (a : Option Addr) (c : Nat) (xs : List Rx) (w : World) (hx : RxSl w S a xs.length xs) (hp : Rx.partsL xs ≤ 1000000) (hsm : Rx.smallL xs) :
    Calls Try.prog 27 #[.int .i64 kd, .slice a xs.length c] w fun e w' => ∃ a' c', e = .returned (.slice a' (flatL kd xs).length c') ∧ RxSl w' (fun b => w.heap.size ≤ b) a' (flatL kd xs).length (flatL kd xs) ∧ Below w.heap.size w w' := by
  have HX := Lib.hid hx
  have HSM := Lib.hid hsm
  have hlp := Rx.len_parts xs
  obtain ⟨ix, hix⟩ := info_parts rx_info
  clear hx hsm
  go_enter Try.func27, Try.ntmps27
  go_wp2
  go_loopw [5, 10] (fun v q wr => FlRel kd xs w v q wr) (fun _ q _ => xs.length - (intOf q).toNat)
  case atStart => exact ⟨0, by omega, rfl, Below.refl _ _, by rw [List.take_zero]; exact OwnX.nil _ _⟩
  case round =>
    obtain ⟨i, hik, rfl, hb, hox⟩ := hrel
    have hB := hb.size
    cases hd : xs.drop i with
    | nil =>
      have h2 : xs.length ≤ i := by simpa using hd
      rw [List.take_of_length_le h2] at hox
      obtain ⟨css, hown, hrv⟩ := hox
      obtain ⟨va, vc, rfl⟩ := own_form hown
      have HXS := Lib.hid (OwnX.sl ⟨css, hown, hrv⟩).2
      clear hd hown hrv
      go_wp2
      go_ret
      exact ⟨va, vc, rfl, HXS.out, hb⟩
    | cons y r =>
      obtain ⟨h2, h3, hr⟩ := ldrop_cons hd
      have hym := List.mem_of_getElem? h3
      have hyp := Rx.parts_mem hym
      have HYS := Lib.hid (smallL_mem HSM.out hym)
      have HTK : Hid (flatL kd (xs.take (i + 1)) = flatL kd (xs.take i) ++ (if y.kind = kd then y.kids else [y])) := Lib.hid (by
        rw [List.take_add_one, h3]; exact flatL_snoc kd _ y)
      have hfl := flatL_len kd (xs.take i)
      have hpt := partsL_take xs i
      obtain ⟨yk, yc, yn, yr, yl, yh, yz, ys⟩ := y
      have hyl := Rx.len_parts ys
      simp only [Rx.parts] at hyp
      obtain ⟨b, o, ya, yrc, yka, ykc, rfl, hS, hbB, _, _, hyv, c0, c1, c2, c3, c4, c5, c6, c7⟩ := (HX.out.later hb).cells h3
      obtain ⟨w0, hw0⟩ : ∃ w0, w0 = wr.alloc (.cells #[.int .i64 yk, .string ⟨(yc).toArray⟩, .bool yn, .slice ya yr.length yrc, .int .i64 yl, .int .i64 yh, .bool yz, .slice yka ys.length ykc] 26) := ⟨_, rfl⟩
      have hb0 : Below wr.heap.size wr w0 := by rw [hw0]; exact (Below.refl _ _).alloc (Nat.le_refl _) _
      have hbx0 : w0.heap[wr.heap.size]? = some (.cells #[.int .i64 yk, .string ⟨(yc).toArray⟩, .bool yn, .slice ya yr.length yrc, .int .i64 yl, .int .i64 yh, .bool yz, .slice yka ys.length ykc] 26 (0, 0)) := by rw [hw0]; exact heap_alloc_new wr _
      have HYV := Lib.hid (hyv.later hb0)
      have hz0 : w0.heap.size = wr.heap.size + 1 := by rw [hw0]; simp
      have HW0 := Lib.hid hw0
      rw [hw0] at HYV
      unfold rxc at HYV
      obtain ⟨css, hown, hrv⟩ := hox
      generalize hFL : flatL kd (xs.take i) = fl at *
      obtain ⟨va, vc, rfl⟩ := own_form hown
      have hlt := hown.lt
      clear hd hr h3 hyv hym hw0
      go_wp2_with (go_at_call 33; refine (Clone_any S _ _ (Nat.le_refl _) HYS.out _ _ HYV.out).mono ?_)
      rintro e w3 ⟨cc', rfl, hcv, hb3⟩
      rw [← HW0.out] at hb3 hcv
      obtain ⟨za, zc, zka, zkc, rfl, hzr, hzx⟩ := hcv.open_
      have hb3' := bel2 hb0 hb3
      have hz3 := hb3.size
      have hbx3 := (hb3.block _ (heap_lt hbx0)).trans hbx0
      have HBX3 := Lib.hid hbx3
      obtain ⟨e0, e1, e2, e3, e4, e5, e6, e7, e8⟩ := bx_cells hbx3
      have HOWN3 := Lib.hid (own_below hown hb3'); have HRV0 := Lib.hid hrv; have HCV3 := Lib.hid hcv; have HZX := Lib.hid hzx
      clear hown hrv hcv hzr hzx hbx3
      have hgo : ∀ g, va = some g → g.block ≠ wr.heap.size := fun g hg e => by have := (hlt g.block (by rw [hg]; rfl)).2; omega
      have hob : (Value.slice va fl.length vc).ownBlock ≠ some wr.heap.size := fun e => by have := (hlt _ e).2; omega
      have hkF : Kept (fun b => b ≠ wr.heap.size) w3 ((((((((((w3).setCell ⟨wr.heap.size, 0, none⟩ (.int .i64 yk)).setCell ⟨wr.heap.size, 1, none⟩ (.string ⟨(yc).toArray⟩)).setCell ⟨wr.heap.size, 2, none⟩ (.bool yn)).setCell ⟨wr.heap.size, 3, none⟩ (.slice za yr.length zc)).setCell ⟨wr.heap.size, 4, none⟩ (.int .i64 yl)).setCell ⟨wr.heap.size, 5, none⟩ (.int .i64 yh)).setCell ⟨wr.heap.size, 6, none⟩ (.bool yz)).setCell ⟨wr.heap.size, 7, none⟩ (.slice zka ys.length zkc))) := by
        iterate 7 (refine Kept.trans ?_ (Kept.setLow _ (fun b hb => hb)))
        exact Kept.setLow _ (fun b hb => hb)
      have hoF : ((((((((((w3).setCell ⟨wr.heap.size, 0, none⟩ (.int .i64 yk)).setCell ⟨wr.heap.size, 1, none⟩ (.string ⟨(yc).toArray⟩)).setCell ⟨wr.heap.size, 2, none⟩ (.bool yn)).setCell ⟨wr.heap.size, 3, none⟩ (.slice za yr.length zc)).setCell ⟨wr.heap.size, 4, none⟩ (.int .i64 yl)).setCell ⟨wr.heap.size, 5, none⟩ (.int .i64 yh)).setCell ⟨wr.heap.size, 6, none⟩ (.bool yz)).setCell ⟨wr.heap.size, 7, none⟩ (.slice zka ys.length zkc))).ownsRow w.heap.size 26 8 (.slice va fl.length vc) fl.length css.flatten := by
        iterate 8 (refine own_setOther ?_ hob _)
        exact HOWN3.out
      have hrF : RxVs ((((((((((w3).setCell ⟨wr.heap.size, 0, none⟩ (.int .i64 yk)).setCell ⟨wr.heap.size, 1, none⟩ (.string ⟨(yc).toArray⟩)).setCell ⟨wr.heap.size, 2, none⟩ (.bool yn)).setCell ⟨wr.heap.size, 3, none⟩ (.slice za yr.length zc)).setCell ⟨wr.heap.size, 4, none⟩ (.int .i64 yl)).setCell ⟨wr.heap.size, 5, none⟩ (.int .i64 yh)).setCell ⟨wr.heap.size, 6, none⟩ (.bool yz)).setCell ⟨wr.heap.size, 7, none⟩ (.slice zka ys.length zkc))) (fun b => w.heap.size ≤ b ∧ (Value.slice va fl.length vc).ownBlock ≠ some b) css fl :=
        ((RxVs.keep (S := fun b => (w.heap.size ≤ b ∧ (Value.slice va fl.length vc).ownBlock ≠ some b) ∧ b < wr.heap.size) (hkF.sub fun b hb e => by have := hb.2; omega)
          ((HRV0.out.mono (fun b hb hl => ⟨hb, hl⟩)).later hb3')).mono fun b hb _ => hb.1)
      have hcF : RxV ((((((((((w3).setCell ⟨wr.heap.size, 0, none⟩ (.int .i64 yk)).setCell ⟨wr.heap.size, 1, none⟩ (.string ⟨(yc).toArray⟩)).setCell ⟨wr.heap.size, 2, none⟩ (.bool yn)).setCell ⟨wr.heap.size, 3, none⟩ (.slice za yr.length zc)).setCell ⟨wr.heap.size, 4, none⟩ (.int .i64 yl)).setCell ⟨wr.heap.size, 5, none⟩ (.int .i64 yh)).setCell ⟨wr.heap.size, 6, none⟩ (.bool yz)).setCell ⟨wr.heap.size, 7, none⟩ (.slice zka ys.length zkc))) (fun b => w.heap.size ≤ b ∧ (Value.slice va fl.length vc).ownBlock ≠ some b) [.int .i64 yk, .string ⟨(yc).toArray⟩, .bool yn, .slice za yr.length zc, .int .i64 yl, .int .i64 yh, .bool yz, .slice zka ys.length zkc] (.mk yk yc yn yr yl yh yz ys) :=
        (HCV3.out.keep (hkF.sub fun b hb e => by have : w0.heap.size ≤ b := hb; omega)).mono fun b hb _ => by
          have hb' : w0.heap.size ≤ b := hb
          exact ⟨by omega, fun e => by have := (hlt b e).2; omega⟩
      have hbF : Below w.heap.size w ((((((((((w3).setCell ⟨wr.heap.size, 0, none⟩ (.int .i64 yk)).setCell ⟨wr.heap.size, 1, none⟩ (.string ⟨(yc).toArray⟩)).setCell ⟨wr.heap.size, 2, none⟩ (.bool yn)).setCell ⟨wr.heap.size, 3, none⟩ (.slice za yr.length zc)).setCell ⟨wr.heap.size, 4, none⟩ (.int .i64 yl)).setCell ⟨wr.heap.size, 5, none⟩ (.int .i64 yh)).setCell ⟨wr.heap.size, 6, none⟩ (.bool yz)).setCell ⟨wr.heap.size, 7, none⟩ (.slice zka ys.length zkc))) := by
        iterate 8 (refine Below.setCell ?_ (by simp; omega) _)
        exact bel2 hb hb3'
      have HOF := Lib.hid hoF; have HRF := Lib.hid hrF; have HCF := Lib.hid hcF
      have hzF : w.heap.size ≤ ((((((((((w3).setCell ⟨wr.heap.size, 0, none⟩ (.int .i64 yk)).setCell ⟨wr.heap.size, 1, none⟩ (.string ⟨(yc).toArray⟩)).setCell ⟨wr.heap.size, 2, none⟩ (.bool yn)).setCell ⟨wr.heap.size, 3, none⟩ (.slice za yr.length zc)).setCell ⟨wr.heap.size, 4, none⟩ (.int .i64 yl)).setCell ⟨wr.heap.size, 5, none⟩ (.int .i64 yh)).setCell ⟨wr.heap.size, 6, none⟩ (.bool yz)).setCell ⟨wr.heap.size, 7, none⟩ (.slice zka ys.length zkc))).heap.size := hbF.size
      clear hkF hoF hrF hcF
      by_cases hkk : yk = kd
      · have hkb : (yk == kd) = true := by simpa using hkk
        have HTK2 : Hid (flatL kd (xs.take (i + 1)) = fl ++ ys) := Lib.hid (by rw [HTK.out, if_pos (show (Rx.mk yk yc yn yr yl yh yz ys).kind = kd from hkk)]; rfl)
        obtain ⟨_, _, _, _, hq, _, hzF2⟩ := HCF.out.open_
        unfold rxc at hq
        simp only [List.cons.injEq, Value.slice.injEq, and_true, true_and] at hq
        obtain ⟨⟨rfl, rfl⟩, rfl, rfl⟩ := hq
        obtain ⟨ds, hds, hdv⟩ := hzF2
        have HDS := Lib.hid hds.sl; have HDV := Lib.hid hdv
        clear hkk hds hdv
        unfold rxc
        go_wp2_with (at_builtin; refine wpList_appM w.heap.size 26 rfl _ _ 24 rfl Try.underlying24 hix rfl (by decide) rfl HOF.out rfl HDS.out HDV.out.one (by omega) (by omega) (by decide) hzF ?_)
        intro v1 w4 ho1 hg1 hb4 hmv
        have hox4 : OwnX w4 w.heap.size v1 (flatL kd (xs.take (i + 1))) := by
          rw [HTK2.out]
          exact OwnX.app HRF.out HDV.out rfl ho1 hg1 hmv
        have hb4' := hbF.trans hb4
        clear ho1 hg1 hmv
        go_wp2
        go_roundw
        case rel => exact ⟨i + 1, by omega, by go_num, hb4', hox4⟩
        case measure => simp [intOf]; omega
      · have hkb : (yk == kd) = false := by simpa using hkk
        have HTK2 : Hid (flatL kd (xs.take (i + 1)) = fl ++ [.mk yk yc yn yr yl yh yz ys]) := Lib.hid (by rw [HTK.out, if_neg (show ¬ (Rx.mk yk yc yn yr yl yh yz ys).kind = kd from hkk)])
        have hsl := Sl.lit (n := 1) (sz := 8) (heap_alloc_new ((((((((((w3).setCell ⟨wr.heap.size, 0, none⟩ (.int .i64 yk)).setCell ⟨wr.heap.size, 1, none⟩ (.string ⟨(yc).toArray⟩)).setCell ⟨wr.heap.size, 2, none⟩ (.bool yn)).setCell ⟨wr.heap.size, 3, none⟩ (.slice za yr.length zc)).setCell ⟨wr.heap.size, 4, none⟩ (.int .i64 yl)).setCell ⟨wr.heap.size, 5, none⟩ (.int .i64 yh)).setCell ⟨wr.heap.size, 6, none⟩ (.bool yz)).setCell ⟨wr.heap.size, 7, none⟩ (.slice zka ys.length zkc))) (.cells #[.int .i64 yk, .string ⟨(yc).toArray⟩, .bool yn, .slice za yr.length zc, .int .i64 yl, .int .i64 yh, .bool yz, .slice zka ys.length zkc] 26)) rfl
        have hszF : ((((((((((w3).setCell ⟨wr.heap.size, 0, none⟩ (.int .i64 yk)).setCell ⟨wr.heap.size, 1, none⟩ (.string ⟨(yc).toArray⟩)).setCell ⟨wr.heap.size, 2, none⟩ (.bool yn)).setCell ⟨wr.heap.size, 3, none⟩ (.slice za yr.length zc)).setCell ⟨wr.heap.size, 4, none⟩ (.int .i64 yl)).setCell ⟨wr.heap.size, 5, none⟩ (.int .i64 yh)).setCell ⟨wr.heap.size, 6, none⟩ (.bool yz)).setCell ⟨wr.heap.size, 7, none⟩ (.slice zka ys.length zkc))).heap.size = w3.heap.size := by simp [World.setCell]
        rw [hszF] at hsl
        have hone := HCF.out.one
        have ho3 := own_below HOF.out ((Below.refl ((((((((((w3).setCell ⟨wr.heap.size, 0, none⟩ (.int .i64 yk)).setCell ⟨wr.heap.size, 1, none⟩ (.string ⟨(yc).toArray⟩)).setCell ⟨wr.heap.size, 2, none⟩ (.bool yn)).setCell ⟨wr.heap.size, 3, none⟩ (.slice za yr.length zc)).setCell ⟨wr.heap.size, 4, none⟩ (.int .i64 yl)).setCell ⟨wr.heap.size, 5, none⟩ (.int .i64 yh)).setCell ⟨wr.heap.size, 6, none⟩ (.bool yz)).setCell ⟨wr.heap.size, 7, none⟩ (.slice zka ys.length zkc))).heap.size ((((((((((w3).setCell ⟨wr.heap.size, 0, none⟩ (.int .i64 yk)).setCell ⟨wr.heap.size, 1, none⟩ (.string ⟨(yc).toArray⟩)).setCell ⟨wr.heap.size, 2, none⟩ (.bool yn)).setCell ⟨wr.heap.size, 3, none⟩ (.slice za yr.length zc)).setCell ⟨wr.heap.size, 4, none⟩ (.int .i64 yl)).setCell ⟨wr.heap.size, 5, none⟩ (.int .i64 yh)).setCell ⟨wr.heap.size, 6, none⟩ (.bool yz)).setCell ⟨wr.heap.size, 7, none⟩ (.slice zka ys.length zkc)))).alloc (Nat.le_refl _) (.cells #[.int .i64 yk, .string ⟨(yc).toArray⟩, .bool yn, .slice za yr.length zc, .int .i64 yl, .int .i64 yh, .bool yz, .slice zka ys.length zkc] 26))
        have hrv3 := HRF.out.later ((Below.refl ((((((((((w3).setCell ⟨wr.heap.size, 0, none⟩ (.int .i64 yk)).setCell ⟨wr.heap.size, 1, none⟩ (.string ⟨(yc).toArray⟩)).setCell ⟨wr.heap.size, 2, none⟩ (.bool yn)).setCell ⟨wr.heap.size, 3, none⟩ (.slice za yr.length zc)).setCell ⟨wr.heap.size, 4, none⟩ (.int .i64 yl)).setCell ⟨wr.heap.size, 5, none⟩ (.int .i64 yh)).setCell ⟨wr.heap.size, 6, none⟩ (.bool yz)).setCell ⟨wr.heap.size, 7, none⟩ (.slice zka ys.length zkc))).heap.size ((((((((((w3).setCell ⟨wr.heap.size, 0, none⟩ (.int .i64 yk)).setCell ⟨wr.heap.size, 1, none⟩ (.string ⟨(yc).toArray⟩)).setCell ⟨wr.heap.size, 2, none⟩ (.bool yn)).setCell ⟨wr.heap.size, 3, none⟩ (.slice za yr.length zc)).setCell ⟨wr.heap.size, 4, none⟩ (.int .i64 yl)).setCell ⟨wr.heap.size, 5, none⟩ (.int .i64 yh)).setCell ⟨wr.heap.size, 6, none⟩ (.bool yz)).setCell ⟨wr.heap.size, 7, none⟩ (.slice zka ys.length zkc)))).alloc (Nat.le_refl _) (.cells #[.int .i64 yk, .string ⟨(yc).toArray⟩, .bool yn, .slice za yr.length zc, .int .i64 yl, .int .i64 yh, .bool yz, .slice zka ys.length zkc] 26))
        have hcv3 := HCF.out.later ((Below.refl ((((((((((w3).setCell ⟨wr.heap.size, 0, none⟩ (.int .i64 yk)).setCell ⟨wr.heap.size, 1, none⟩ (.string ⟨(yc).toArray⟩)).setCell ⟨wr.heap.size, 2, none⟩ (.bool yn)).setCell ⟨wr.heap.size, 3, none⟩ (.slice za yr.length zc)).setCell ⟨wr.heap.size, 4, none⟩ (.int .i64 yl)).setCell ⟨wr.heap.size, 5, none⟩ (.int .i64 yh)).setCell ⟨wr.heap.size, 6, none⟩ (.bool yz)).setCell ⟨wr.heap.size, 7, none⟩ (.slice zka ys.length zkc))).heap.size ((((((((((w3).setCell ⟨wr.heap.size, 0, none⟩ (.int .i64 yk)).setCell ⟨wr.heap.size, 1, none⟩ (.string ⟨(yc).toArray⟩)).setCell ⟨wr.heap.size, 2, none⟩ (.bool yn)).setCell ⟨wr.heap.size, 3, none⟩ (.slice za yr.length zc)).setCell ⟨wr.heap.size, 4, none⟩ (.int .i64 yl)).setCell ⟨wr.heap.size, 5, none⟩ (.int .i64 yh)).setCell ⟨wr.heap.size, 6, none⟩ (.bool yz)).setCell ⟨wr.heap.size, 7, none⟩ (.slice zka ys.length zkc)))).alloc (Nat.le_refl _) (.cells #[.int .i64 yk, .string ⟨(yc).toArray⟩, .bool yn, .slice za yr.length zc, .int .i64 yl, .int .i64 yh, .bool yz, .slice zka ys.length zkc] 26))
        have HO3 := Lib.hid ho3; have HSL := Lib.hid hsl; have HRV3' := Lib.hid hrv3; have HCV3' := Lib.hid hcv3; have HONE := Lib.hid hone
        have hzF' : w.heap.size ≤ (((((((((((w3).setCell ⟨wr.heap.size, 0, none⟩ (.int .i64 yk)).setCell ⟨wr.heap.size, 1, none⟩ (.string ⟨(yc).toArray⟩)).setCell ⟨wr.heap.size, 2, none⟩ (.bool yn)).setCell ⟨wr.heap.size, 3, none⟩ (.slice za yr.length zc)).setCell ⟨wr.heap.size, 4, none⟩ (.int .i64 yl)).setCell ⟨wr.heap.size, 5, none⟩ (.int .i64 yh)).setCell ⟨wr.heap.size, 6, none⟩ (.bool yz)).setCell ⟨wr.heap.size, 7, none⟩ (.slice zka ys.length zkc))).alloc (.cells #[.int .i64 yk, .string ⟨(yc).toArray⟩, .bool yn, .slice za yr.length zc, .int .i64 yl, .int .i64 yh, .bool yz, .slice zka ys.length zkc] 26)).heap.size := by rw [World.size_alloc]; omega
        have hbF' := hbF.alloc hzF (.cells #[.int .i64 yk, .string ⟨(yc).toArray⟩, .bool yn, .slice za yr.length zc, .int .i64 yl, .int .i64 yh, .bool yz, .slice zka ys.length zkc] 26)
        clear hkk ho3 hsl hrv3 hcv3 hone
        unfold rxc
        go_wp2_with (at_builtin; refine wpList_appM w.heap.size 26 rfl _ _ 24 rfl Try.underlying24 hix rfl (by decide) rfl HO3.out rfl HSL.out HONE.out (by omega) (by omega) (by decide) hzF' ?_)
        intro v1 w4 ho1 hg1 hb4 hmv
        have hox4 : OwnX w4 w.heap.size v1 (flatL kd (xs.take (i + 1))) := by
          rw [HTK2.out]
          exact OwnX.app (ds := [_]) (m := 1) HRV3'.out (.cons HCV3'.out .nil) rfl (by simpa using ho1) hg1 hmv
        have hb4' := hbF'.trans hb4
        clear ho1 hg1 hmv
        go_wp2
        go_roundw
        case rel => exact ⟨i + 1, by omega, by go_num, hb4', hox4⟩
        case measure => simp [intOf]; omega
end Go.Proofs.Ytemophfieihgaaa
