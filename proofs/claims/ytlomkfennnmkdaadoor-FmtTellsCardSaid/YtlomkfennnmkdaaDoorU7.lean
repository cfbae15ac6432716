/- walk of the references: gimletref18.Apply -/
import Derived.Test.YtlomkfennnmkdaaDoorU6
import Derived.Test.YtlomkfennnmkdaaDoorT13
namespace Go.Proofs.YtlomkfennnmkdaaDoor
open Go.RowKit
def AfRel (fs : List Fm) (ps : List Str) (m : Nat) (R : Str) (w : World) (s q : Value) (wr : World) : Prop :=
  ∃ (k : Nat) (acc : Str), k ≤ fs.length ∧ q = .int .i64 k ∧ s = .string ⟨(acc).toArray⟩ ∧ Below w.heap.size w wr ∧ Hid (acc.length ≤ k * m) ∧ Hid (acc ++ (fs.drop k).flatMap (piece ps) = R)
set_option maxRecDepth 100000 in
set_option maxHeartbeats 4000000 in
theorem rApply_any (a a' : Option Addr) (c n' c' m : Nat) (fs : List Fm) (ps : List Str) (w : World) (h : Sl w w.heap.size a 5 fs.length (fcells fs)) (h' : Sl w w.heap.size a' 1 n' (scells ps))
    (hf : ∀ f ∈ fs, f.thn.length ≤ m ∧ f.els.length ≤ m) (hp : ∀ p ∈ ps, p.length ≤ m) (hm : m ≤ 10000) (hn : fs.length ≤ 1000) (hn' : n' ≤ 1000000) :
    Calls Tryd.prog 14 #[.slice a fs.length c, .slice a' n' c'] w fun e w' => e = .returned (.string ⟨(applyF fs ps).toArray⟩) ∧ Below w.heap.size w w' := by
  have HSl := Lib.hid h
  have HSp := Lib.hid h'
  obtain rfl := h'.str_len
  by_cases hmay : mayFs fs = true
  · have HA : Hid (applyF fs ps = fs.flatMap (piece ps)) := Lib.hid (if_pos hmay)
    rw [HA.out]
    obtain ⟨R, hR⟩ : ∃ R, R = fs.flatMap (piece ps) := ⟨_, rfl⟩
    rw [← hR]
    have HR := Lib.hid hR
    have HF := Lib.hid hf
    have HP := Lib.hid hp
    have HMY := Lib.hid hmay
    have HM := Lib.hid (mayL_all _ _ hmay)
    clear hR hf hp h h' hmay
    go_enter Tryd.func14, Tryd.ntmps14
    go_wp2_with (go_at_call 12; refine (rMay_any _ _ _ fs _ HSl.out (by omega)).mono ?_; rintro e w0 ⟨rfl, hb0⟩; rw [HMY.out])
    have hB0 := hb0.size
    go_loopw [5, 6] (fun s q wr => AfRel fs ps m R w s q wr) (fun _ q _ => fs.length - (intOf q).toNat)
    case atStart => exact ⟨0, [], by omega, rfl, rfl, hb0, Lib.hid (by simp), Lib.hid (by rw [HR.out]; rfl)⟩
    case round =>
      obtain ⟨k, acc, hk, rfl, rfl, hb, HL, HRR⟩ := hrel
      clear HR
      have hB := hb.size
      have hacc : acc.length ≤ 10000000 := Nat.le_trans HL.out (Nat.le_trans (Nat.mul_le_mul (show k ≤ 1000 by omega) (show m ≤ 10000 by omega)) (by decide))
      cases hd : fs.drop k with
      | nil =>
        have h2 : fs.length ≤ k := by simpa using hd
        have HE : Hid (acc = R) := Lib.hid (by rw [← HRR.out, hd]; simp)
        clear hd HRR
        go_wp2
        go_ret
        exact ⟨ret_str HE.out, hb⟩
      | cons f r =>
        obtain ⟨h2, h3, hr⟩ := ldrop_cons hd
        have Hr := Lib.hid hr
        have hfm := List.mem_of_getElem? h3
        have hmf := HM.out f hfm
        obtain ⟨f1, f2⟩ := HF.out f hfm
        obtain ⟨n0, n1⟩ := mayF_n hmf
        have HRR2 : Hid (acc ++ (piece ps f ++ r.flatMap (piece ps)) = R) := Lib.hid (by rw [← HRR.out, hd]; rfl)
        have HPL := Lib.hid (piece_len (f := f) HP.out f1 f2)
        have hpl := partOf_len HP.out f.n
        have hkind := mayF_kind hmf
        obtain ⟨b, o, rfl, hbB, c0, c1, c2, c3, c4⟩ := (HSl.out.keep hb).fm h3
        obtain ⟨kind, fn, cse, thn, els⟩ := f
        replace f1 : thn.length ≤ m := f1
        replace f2 : els.length ≤ m := f2
        replace n0 : 0 ≤ fn := n0
        replace n1 : fn ≤ 9999 := n1
        replace hkind : kind = 0 ∨ kind = 1 ∨ kind = 2 ∨ kind = 3 ∨ kind = 4 ∨ kind = 5 := hkind
        obtain ⟨fn, rfl⟩ := Int.eq_ofNat_of_zero_le n0
        obtain ⟨p, hpo⟩ : ∃ p, partOf ps (fn : Int) = p := ⟨_, rfl⟩
        replace hpl : p.length ≤ m := by rw [← hpo]; exact hpl
        have HPO := Lib.hid hpo
        clear hd HRR hr h3 hfm hmf
        by_cases hin : fn < ps.length
        · have hget : ps[fn]? = some p := by
            rw [← hpo, partOf, Int.toNat_natCast, List.getD_eq_getElem?_getD, List.getElem?_eq_getElem hin]; rfl
          obtain ⟨b', o', rfl, hbB', d0⟩ := (HSp.out.keep hb).str hget
          have d1 : ∀ ob : Obj, (wr.alloc ob).cell? ⟨b', o' + fn, none⟩ = some (.string ⟨(p).toArray⟩) := fun ob => by
            rw [World.cell?_alloc_lt _ _ _ (by simp; omega)]; exact d0
          clear hpo hget d0
          rcases hkind with rfl | rfl | rfl | rfl | rfl | rfl
          · have HPV : Hid (piece ps ⟨0, (fn : Int), cse, thn, els⟩ = thn) := Lib.hid (by simp only [piece]; rw [HPO.out]; simp)
            go_wp2
            go_roundw
            case rel =>
              refine ⟨k + 1, acc ++ thn, by omega, by go_num, ?_, hb.alloc hB _, Lib.hid ?_, Lib.hid ?_⟩
              · simp
              · have := HL.out; have h5 := HPL.out; rw [HPV.out] at h5; rw [List.length_append]; rw [Nat.succ_mul]; omega
              · rw [Hr.out, List.append_assoc, ← HPV.out]; exact HRR2.out
            case measure => simp [intOf]; omega
          · have HPV : Hid (piece ps ⟨1, (fn : Int), cse, thn, els⟩ = p) := Lib.hid (by simp only [piece]; rw [HPO.out]; simp)
            go_wp2
            go_roundw
            case rel =>
              refine ⟨k + 1, acc ++ p, by omega, by go_num, ?_, hb.alloc hB _, Lib.hid ?_, Lib.hid ?_⟩
              · simp
              · have := HL.out; have h5 := HPL.out; rw [HPV.out] at h5; rw [List.length_append]; rw [Nat.succ_mul]; omega
              · rw [Hr.out, List.append_assoc, ← HPV.out]; exact HRR2.out
            case measure => simp [intOf]; omega
          · have HPV : Hid (piece ps ⟨2, (fn : Int), cse, thn, els⟩ = (turn p cse).1) := Lib.hid (by simp only [piece]; rw [HPO.out]; simp)
            have htl := turn_length p cse
            go_wp2_with (go_at_call 28; refine (rTurn_any _ _ _ (by omega)).mono ?_; rintro e w1 ⟨rfl, hb1⟩)
            go_roundw
            case rel =>
              refine ⟨k + 1, acc ++ (turn p cse).1, by omega, by go_num, ?_, bel3 (hb.alloc hB _) hb1, Lib.hid ?_, Lib.hid ?_⟩
              · simp
              · have := HL.out; have h5 := HPL.out; rw [HPV.out] at h5; rw [List.length_append]; rw [Nat.succ_mul]; omega
              · rw [Hr.out, List.append_assoc, ← HPV.out]; exact HRR2.out
            case measure => simp [intOf]; omega
          · skip
            skip
            cases p with
            | nil =>
              have HPV : Hid (piece ps ⟨3, (fn : Int), cse, thn, els⟩ = els) := Lib.hid (by simp only [piece]; rw [HPO.out]; simp)
              go_wp2
              go_roundw
              case rel =>
                refine ⟨k + 1, acc ++ els, by omega, by go_num, ?_, hb.alloc hB _, Lib.hid ?_, Lib.hid ?_⟩
                · simp
                · have := HL.out; have h5 := HPL.out; rw [HPV.out] at h5; rw [List.length_append]; rw [Nat.succ_mul]; omega
                · rw [Hr.out, List.append_assoc, ← HPV.out]; exact HRR2.out
              case measure => simp [intOf]; omega
            | cons d ds =>
              have HPV : Hid (piece ps ⟨3, (fn : Int), cse, thn, els⟩ = thn) := Lib.hid (by simp only [piece]; rw [HPO.out]; simp)
              simp only [List.length_cons] at hpl
              go_wp2
              go_roundw
              case rel =>
                refine ⟨k + 1, acc ++ thn, by omega, by go_num, ?_, hb.alloc hB _, Lib.hid ?_, Lib.hid ?_⟩
                · simp
                · have := HL.out; have h5 := HPL.out; rw [HPV.out] at h5; rw [List.length_append]; rw [Nat.succ_mul]; omega
                · rw [Hr.out, List.append_assoc, ← HPV.out]; exact HRR2.out
              case measure => simp [intOf]; omega
          · skip
            skip
            cases p with
            | nil =>
              have HPV : Hid (piece ps ⟨4, (fn : Int), cse, thn, els⟩ = els) := Lib.hid (by simp only [piece]; rw [HPO.out]; simp)
              go_wp2
              go_roundw
              case rel =>
                refine ⟨k + 1, acc ++ els, by omega, by go_num, ?_, hb.alloc hB _, Lib.hid ?_, Lib.hid ?_⟩
                · simp
                · have := HL.out; have h5 := HPL.out; rw [HPV.out] at h5; rw [List.length_append]; rw [Nat.succ_mul]; omega
                · rw [Hr.out, List.append_assoc, ← HPV.out]; exact HRR2.out
              case measure => simp [intOf]; omega
            | cons d ds =>
              have HPV : Hid (piece ps ⟨4, (fn : Int), cse, thn, els⟩ = (d :: ds)) := Lib.hid (by simp only [piece]; rw [HPO.out]; simp)
              simp only [List.length_cons] at hpl
              go_wp2
              go_roundw
              case rel =>
                refine ⟨k + 1, acc ++ (d :: ds), by omega, by go_num, ?_, hb.alloc hB _, Lib.hid ?_, Lib.hid ?_⟩
                · simp
                · have := HL.out; have h5 := HPL.out; rw [HPV.out] at h5; rw [List.length_append]; rw [Nat.succ_mul]; omega
                · rw [Hr.out, List.append_assoc, ← HPV.out]; exact HRR2.out
              case measure => simp [intOf]; omega
          · skip
            skip
            cases p with
            | nil =>
              have HPV : Hid (piece ps ⟨5, (fn : Int), cse, thn, els⟩ = els) := Lib.hid (by simp only [piece]; rw [HPO.out]; simp)
              go_wp2
              go_roundw
              case rel =>
                refine ⟨k + 1, acc ++ els, by omega, by go_num, ?_, hb.alloc hB _, Lib.hid ?_, Lib.hid ?_⟩
                · simp
                · have := HL.out; have h5 := HPL.out; rw [HPV.out] at h5; rw [List.length_append]; rw [Nat.succ_mul]; omega
                · rw [Hr.out, List.append_assoc, ← HPV.out]; exact HRR2.out
              case measure => simp [intOf]; omega
            | cons d ds =>
              have HPV : Hid (piece ps ⟨5, (fn : Int), cse, thn, els⟩ = thn) := Lib.hid (by simp only [piece]; rw [HPO.out]; simp)
              simp only [List.length_cons] at hpl
              go_wp2
              go_roundw
              case rel =>
                refine ⟨k + 1, acc ++ thn, by omega, by go_num, ?_, hb.alloc hB _, Lib.hid ?_, Lib.hid ?_⟩
                · simp
                · have := HL.out; have h5 := HPL.out; rw [HPV.out] at h5; rw [List.length_append]; rw [Nat.succ_mul]; omega
                · rw [Hr.out, List.append_assoc, ← HPV.out]; exact HRR2.out
              case measure => simp [intOf]; omega
        · have hp0 : p = [] := by
            rw [← hpo, partOf, Int.toNat_natCast, List.getD_eq_getElem?_getD, List.getElem?_eq_none (by omega)]; rfl
          have hge : ps.length ≤ fn := by omega
          clear hpo hin
          subst hp0
          rcases hkind with rfl | rfl | rfl | rfl | rfl | rfl
          · have HPV : Hid (piece ps ⟨0, (fn : Int), cse, thn, els⟩ = thn) := Lib.hid (by simp only [piece]; rw [HPO.out]; simp)
            go_wp2
            go_roundw
            case rel =>
              refine ⟨k + 1, acc ++ thn, by omega, by go_num, ?_, hb.alloc hB _, Lib.hid ?_, Lib.hid ?_⟩
              · simp
              · have := HL.out; have h5 := HPL.out; rw [HPV.out] at h5; rw [List.length_append]; rw [Nat.succ_mul]; omega
              · rw [Hr.out, List.append_assoc, ← HPV.out]; exact HRR2.out
            case measure => simp [intOf]; omega
          · have HPV : Hid (piece ps ⟨1, (fn : Int), cse, thn, els⟩ = []) := Lib.hid (by simp only [piece]; rw [HPO.out]; simp)
            go_wp2
            go_roundw
            case rel =>
              refine ⟨k + 1, acc ++ [], by omega, by go_num, ?_, hb.alloc hB _, Lib.hid ?_, Lib.hid ?_⟩
              · simp
              · have := HL.out; have h5 := HPL.out; rw [HPV.out] at h5; rw [List.length_append]; rw [Nat.succ_mul]; omega
              · rw [Hr.out, List.append_assoc, ← HPV.out]; exact HRR2.out
            case measure => simp [intOf]; omega
          · have HPV : Hid (piece ps ⟨2, (fn : Int), cse, thn, els⟩ = (turn [] cse).1) := Lib.hid (by simp only [piece]; rw [HPO.out]; simp)
            have htl := turn_length [] cse
            go_wp2_with (go_at_call 28; refine (rTurn_any [] _ _ (by simp)).mono ?_; rintro e w1 ⟨rfl, hb1⟩)
            go_roundw
            case rel =>
              refine ⟨k + 1, acc ++ (turn [] cse).1, by omega, by go_num, ?_, bel3 (hb.alloc hB _) hb1, Lib.hid ?_, Lib.hid ?_⟩
              · simp
              · have := HL.out; have h5 := HPL.out; rw [HPV.out] at h5; rw [List.length_append]; rw [Nat.succ_mul]; omega
              · rw [Hr.out, List.append_assoc, ← HPV.out]; exact HRR2.out
            case measure => simp [intOf]; omega
          · have HPV : Hid (piece ps ⟨3, (fn : Int), cse, thn, els⟩ = els) := Lib.hid (by simp only [piece]; rw [HPO.out]; simp)
            go_wp2
            go_roundw
            case rel =>
              refine ⟨k + 1, acc ++ els, by omega, by go_num, ?_, hb.alloc hB _, Lib.hid ?_, Lib.hid ?_⟩
              · simp
              · have := HL.out; have h5 := HPL.out; rw [HPV.out] at h5; rw [List.length_append]; rw [Nat.succ_mul]; omega
              · rw [Hr.out, List.append_assoc, ← HPV.out]; exact HRR2.out
            case measure => simp [intOf]; omega
          · have HPV : Hid (piece ps ⟨4, (fn : Int), cse, thn, els⟩ = els) := Lib.hid (by simp only [piece]; rw [HPO.out]; simp)
            go_wp2
            go_roundw
            case rel =>
              refine ⟨k + 1, acc ++ els, by omega, by go_num, ?_, hb.alloc hB _, Lib.hid ?_, Lib.hid ?_⟩
              · simp
              · have := HL.out; have h5 := HPL.out; rw [HPV.out] at h5; rw [List.length_append]; rw [Nat.succ_mul]; omega
              · rw [Hr.out, List.append_assoc, ← HPV.out]; exact HRR2.out
            case measure => simp [intOf]; omega
          · have HPV : Hid (piece ps ⟨5, (fn : Int), cse, thn, els⟩ = els) := Lib.hid (by simp only [piece]; rw [HPO.out]; simp)
            go_wp2
            go_roundw
            case rel =>
              refine ⟨k + 1, acc ++ els, by omega, by go_num, ?_, hb.alloc hB _, Lib.hid ?_, Lib.hid ?_⟩
              · simp
              · have := HL.out; have h5 := HPL.out; rw [HPV.out] at h5; rw [List.length_append]; rw [Nat.succ_mul]; omega
              · rw [Hr.out, List.append_assoc, ← HPV.out]; exact HRR2.out
            case measure => simp [intOf]; omega
  · have HA : Hid (applyF fs ps = []) := Lib.hid (if_neg hmay)
    have HN : Hid (mayFs fs = false) := Lib.hid (by simpa using hmay)
    rw [HA.out]
    clear hmay h h' hf hp
    go_enter Tryd.func14, Tryd.ntmps14
    go_wp2_with (go_at_call 12; refine (rMay_any _ _ _ fs _ HSl.out (by omega)).mono ?_; rintro e w0 ⟨rfl, hb0⟩; rw [HN.out])
    go_ret
    exact ⟨rfl, hb0⟩
end Go.Proofs.YtlomkfennnmkdaaDoor
