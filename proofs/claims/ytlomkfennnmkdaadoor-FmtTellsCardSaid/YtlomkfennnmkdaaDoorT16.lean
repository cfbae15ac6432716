/- walk of fmts.quoted -/
import Derived.Test.YtlomkfennnmkdaaDoorShowM
import Derived.Test.YtlomkfennnmkdaaDoorT9
namespace Go.Proofs.YtlomkfennnmkdaaDoor
open Go.RowKit
def QuRel (th l : Str) (g : Nat) (w0 : World) (R : Str) (q : Value) (wr : World) : Prop :=
  ∃ (i : Nat) (acc : Str), i ≤ l.length ∧ q = .int .i64 i ∧ Bld w0.heap.size g acc wr ∧ Below w0.heap.size w0 wr ∧ acc.length ≤ 2 * i ∧ Hid (acc ++ quot th (l.drop i) = R)
set_option maxHeartbeats 2000000 in
theorem quoted_any (l th : Str) (w : World) (hs : l.length ≤ 1000000) :
    Calls Tryd.prog 19 #[.string ⟨(l).toArray⟩, .string ⟨(th).toArray⟩] w fun e w' => e = .returned (.string ⟨(quot th l).toArray⟩) ∧ Below w.heap.size w w' := by
  generalize hR : quot th l = R
  have HR := Lib.hid hR
  clear hR
  have HR0 : Hid ([] ++ quot th (l.drop 0) = R) := HR
  clear HR
  go_enter Tryd.func19, Tryd.ntmps19
  go_wp2
  go_loopw [6] (fun q wr => QuRel th l w.heap.size w R q wr) (fun q _ => l.length - (intOf q).toNat)
  case atStart => exact ⟨0, [], by omega, rfl, Bld.fresh _ _ (Nat.le_refl _), (Below.refl _ _).alloc (Nat.le_refl _) _, by simp, HR0⟩
  case round =>
    obtain ⟨i, acc, hi, rfl, hbl, hb, hacc, HF⟩ := hrel
    clear HR0
    have hB := hb.size
    cases hd : l.drop i with
    | nil =>
      have h2 := drop_nil hd
      have HF' : Hid (acc = R) := Lib.hid (by rw [← HF.out, hd]; simp [quot])
      clear hd HF
      go_wp2_with (go_at_call 22; refine (String_any _ _ _ _ hbl hB).mono ?_; rintro e w1 ⟨rfl, hb1⟩)
      go_ret
      exact ⟨ret_str HF'.out, hb.trans hb1⟩
    | cons c r =>
      obtain ⟨h2, h3, hr⟩ := drop_cons hd
      have HF' : Hid (acc ++ ((if th.contains c = true then [92, c] else [c]) ++ quot th r) = R) := Lib.hid (by rw [← HF.out, hd]; rfl)
      have Hr := Lib.hid hr
      have hc256 := u8_lt c
      clear hd HF hr
      by_cases hc : th.contains c = true
      · obtain ⟨k, hk⟩ := idx_hit hc
        have HK := Lib.hid hk
        have HC := Lib.hid hc
        clear hk hc
        go_wp2_with (first | (go_at_call 33; refine (IndexByte_eq _ HK.out).mono ?_; rintro e w1 ⟨rfl, rfl⟩) | (go_at_call 34; refine (WriteByte_any w.heap.size _ (acc) (92) _ hbl (by first | omega | (simp; omega)) (by omega) (by omega) (by omega)).mono ?_))
        rintro e w2 ⟨rfl, hbl2, hfr2⟩
        have hb2 := hb.trans (hfr2.below hB (by simp))
        have hB2 := hb2.size
        go_wp2_with (go_at_call 34; refine (WriteByte_any w.heap.size _ (acc ++ [92]) ((c.toNat : Int)) _ hbl2 (by first | omega | (simp; omega)) (by omega) (by omega) (by omega)).mono ?_)
        rintro e w3 ⟨rfl, hbl3, hfr3⟩
        go_wp2_with fail
        go_roundw
        case rel =>
          refine ⟨i + 1, acc ++ [92, c], by omega, by go_num, ?_, hb2.trans (hfr3.below hB2 (by simp)), by simp; omega, Lib.hid ?_⟩
          · simpa using hbl3
          · rw [Hr.out, ← HF'.out, if_pos HC.out]; simp
        case measure => simp [intOf]; omega
      · have hk := idx_miss hc
        have HK := Lib.hid hk
        have HC := Lib.hid hc
        clear hk hc
        go_wp2_with (first | (go_at_call 33; refine (IndexByte_eq _ HK.out).mono ?_; rintro e w1 ⟨rfl, rfl⟩) | (go_at_call 34; refine (WriteByte_any w.heap.size _ (acc) ((c.toNat : Int)) _ hbl (by first | omega | (simp; omega)) (by omega) (by omega) (by omega)).mono ?_))
        rintro e w2 ⟨rfl, hbl2, hfr2⟩
        go_wp2_with fail
        go_roundw
        case rel =>
          refine ⟨i + 1, acc ++ [c], by omega, by go_num, ?_, hb.trans (hfr2.below hB (by simp)), by simp; omega, Lib.hid ?_⟩
          · simpa using hbl2
          · rw [Hr.out, ← HF'.out, if_neg HC.out]; simp
        case measure => simp [intOf]; omega
end Go.Proofs.YtlomkfennnmkdaaDoor
