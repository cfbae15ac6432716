/- walk of fmts.Apply -/
import Derived.Test.YtlomkfennnmkdaaDoorT8
import Derived.Test.YtlomkfennnmkdaaDoorApM
namespace Go.Proofs.YtlomkfennnmkdaaDoor
open Go.RowKit
def ApRel (fs : List Fm) (ps : List Str) (g m : Nat) (w0 w : World) (R : Str) (q : Value) (wr : World) : Prop :=
  ∃ (k : Nat) (acc : Str), k ≤ fs.length ∧ q = .int .i64 k ∧ Bld w.heap.size g acc wr ∧ Below w.heap.size w wr ∧ Hid (acc.length ≤ k * m) ∧ Hid (acc ++ (fs.drop k).flatMap (piece ps) = R)
set_option maxHeartbeats 4000000 in
theorem Apply_any (a a' : Option Addr) (c n' c' m : Nat) (fs : List Fm) (ps : List Str) (w : World) (h : Sl w w.heap.size a 5 fs.length (fcells fs)) (h' : Sl w w.heap.size a' 1 n' (scells ps))
    (hf : ∀ f ∈ fs, f.thn.length ≤ m ∧ f.els.length ≤ m) (hp : ∀ p ∈ ps, p.length ≤ m) (hm : m ≤ 10000) (hn : fs.length ≤ 1000) (hn' : n' ≤ 1000000) :
    Calls Tryd.prog 13 #[.slice a fs.length c, .slice a' n' c'] w fun e w' => e = .returned (.string ⟨(applyF fs ps).toArray⟩) ∧ Below w.heap.size w w' := by
  have HSl := Lib.hid h
  have HSp := Lib.hid h'
  have Hn' := Lib.hid h'.str_len
  by_cases hmay : mayFs fs = true
  · have HA : Hid (applyF fs ps = fs.flatMap (piece ps)) := Lib.hid (if_pos hmay)
    rw [HA.out]
    obtain ⟨R, hR⟩ : ∃ R, R = fs.flatMap (piece ps) := ⟨_, rfl⟩
    rw [← hR]
    have HR := Lib.hid hR
    have HF := Lib.hid hf
    have HP := Lib.hid hp
    have HM := Lib.hid (mayL_all _ _ hmay)
    clear hR hf hp h h'
    go_enter Tryd.func13, Tryd.ntmps13
    go_wp2_with (go_at_call 11; refine (May_any _ _ _ fs _ HSl.out (by omega)).mono ?_; rintro e w0 ⟨rfl, hb0⟩)
    have hB0 := hb0.size
    go_loopw [14] (fun q wr => ApRel fs ps w0.heap.size m w0 w R q wr) (fun q _ => fs.length - (intOf q).toNat)
    case atStart => exact ⟨0, [], by omega, rfl, Bld.fresh _ _ hB0, hb0.alloc hB0 _, Lib.hid (by simp), Lib.hid (by rw [HR.out]; rfl)⟩
    case round =>
      obtain ⟨k, acc, hk, rfl, hbl, hb, HL, HRR⟩ := hrel
      clear HR
      have hB := hb.size
      have hacc : acc.length ≤ 10000000 := Nat.le_trans HL.out (Nat.mul_le_mul (show k ≤ 1000 by omega) hm)
      cases hd : fs.drop k with
      | nil =>
        have h2 : fs.length ≤ k := by simpa using hd
        have HR : Hid (R = acc) := Lib.hid (by rw [← HRR.out, hd]; simp)
        clear hd HRR
        go_wp2_with (go_at_call 22; refine (String_any _ _ _ _ hbl hB).mono ?_; rintro e w1 ⟨rfl, hb1⟩)
        go_ret
        exact ⟨ret_str HR.out.symm, hb.trans hb1⟩
      | cons f r =>
        obtain ⟨h2, h3, hr⟩ := ldrop_cons hd
        have HR : Hid (R = acc ++ (piece ps f ++ r.flatMap (piece ps))) := Lib.hid (by rw [← HRR.out, hd]; rfl)
        have Hr := Lib.hid hr
        have hmem := List.mem_of_getElem? h3
        have hmf := HM.out f hmem
        obtain ⟨b, o, rfl, hbB, c0, c1, c2, c3, c4⟩ := (HSl.out.keep hb).fm h3
        obtain ⟨z1, z2⟩ := HF.out f hmem
        have HPL := Lib.hid (piece_len HP.out z1 z2)
        obtain ⟨n0, n1⟩ := mayF_n hmf
        have hkind := mayF_kind hmf
        clear hd HRR hr h3 hmem hmf
        obtain ⟨kind, fn, cse, thn, els⟩ := f
        replace z1 : thn.length ≤ m := z1
        replace z2 : els.length ≤ m := z2
        obtain ⟨fn, rfl⟩ := Int.eq_ofNat_of_zero_le n0
        by_cases hlt : fn < ps.length
        · obtain ⟨p, hp⟩ : ∃ p, ps[fn]? = some p := ⟨_, List.getElem?_eq_getElem hlt⟩
          have HPO : Hid (partOf ps (fn : Int) = p) := Lib.hid (by simp [partOf, List.getD_eq_getElem?_getD, hp])
          have hpl := HP.out p (List.mem_of_getElem? hp)
          obtain ⟨b', o', ha', hbb, p0⟩ := (HSp.out.keep hb).str hp
          have hbb' : b' < wr.heap.size := by omega
          subst ha'
          have hlt' : fn < n' := by have := Hn'.out; omega
          clear hp hlt
          rcases hkind with hkind | hkind | hkind | hkind | hkind | hkind
          · simp only at hkind; subst hkind
            have HPV : Hid (piece ps ⟨0, (fn : Int), cse, thn, els⟩ = thn) := Lib.hid (by simp only [piece]; rw [HPO.out]; rfl)
            go_wp2_with (go_at_call 20; refine (WriteString_any w.heap.size _ acc _ _ (by first | exact hbl.alloc _ | exact (hbl.alloc _).below hb1) (by omega) (by first | omega | (simp; done)) (by first | (simp; omega) | omega)).mono ?_; rintro e w2 ⟨rfl, hbl2, hfr2⟩)
            go_roundw
            case rel =>
              refine ⟨k + 1, acc ++ thn, by omega, by go_num, hbl2, ?_, Lib.hid ?_, Lib.hid ?_⟩
              · exact (hb.alloc hB _).trans (hfr2.below (by simp; omega) (by simp; have := hbl.le; omega))
              · have := HL.out; rw [List.length_append]; have hp := HPL.out; rw [HPV.out] at hp; rw [Nat.succ_mul]; omega
              · rw [Hr.out, List.append_assoc, ← HPV.out, ← HR.out]
            case measure => simp [intOf]; omega
          · simp only at hkind; subst hkind
            have HPV : Hid (piece ps ⟨1, (fn : Int), cse, thn, els⟩ = p) := Lib.hid (by simp only [piece]; rw [HPO.out]; rfl)
            go_wp2_with (go_at_call 20; refine (WriteString_any w.heap.size _ acc _ _ (by first | exact hbl.alloc _ | exact (hbl.alloc _).below hb1) (by omega) (by first | omega | (simp; done)) (by first | (simp; omega) | omega)).mono ?_; rintro e w2 ⟨rfl, hbl2, hfr2⟩)
            go_roundw
            case rel =>
              refine ⟨k + 1, acc ++ p, by omega, by go_num, hbl2, ?_, Lib.hid ?_, Lib.hid ?_⟩
              · exact (hb.alloc hB _).trans (hfr2.below (by simp; omega) (by simp; have := hbl.le; omega))
              · have := HL.out; rw [List.length_append]; have hp := HPL.out; rw [HPV.out] at hp; rw [Nat.succ_mul]; omega
              · rw [Hr.out, List.append_assoc, ← HPV.out, ← HR.out]
            case measure => simp [intOf]; omega
          · simp only at hkind; subst hkind
            have htl := turn_length (p) cse
            have HPV : Hid (piece ps ⟨2, (fn : Int), cse, thn, els⟩ = (turn (p) cse).1) := Lib.hid (by simp only [piece]; rw [HPO.out]; rfl)
            go_wp2_with (first | (go_at_call 27; refine (Turn_any _ _ _ (by first | omega | (simp; done))).mono ?_; rintro e w1 ⟨rfl, hb1⟩; have hz1 := hb1.size; simp only [World.size_alloc] at hz1) | (go_at_call 20; refine (WriteString_any w.heap.size _ acc _ _ ((hbl.alloc _).below hb1) (by omega) (by first | omega | (simp; done)) (by omega)).mono ?_; rintro e w2 ⟨rfl, hbl2, hfr2⟩))
            go_roundw
            case rel =>
              refine ⟨k + 1, acc ++ (turn (p) cse).1, by omega, by go_num, hbl2, ?_, Lib.hid ?_, Lib.hid ?_⟩
              · exact ((hb.alloc hB _).trans (hb1.mono (by simp; omega))).trans (hfr2.below (by omega) (by simp; have := hbl.le; omega))
              · have := HL.out; rw [List.length_append]; have hp := HPL.out; rw [HPV.out] at hp; rw [Nat.succ_mul]; omega
              · rw [Hr.out, List.append_assoc, ← HPV.out, ← HR.out]
            case measure => simp [intOf]; omega
          · simp only at hkind; subst hkind
            by_cases hp0 : p = []
            · have HPV : Hid (piece ps ⟨3, (fn : Int), cse, thn, els⟩ = els) := Lib.hid (by simp only [piece]; rw [HPO.out]; simp [hp0])
              have he : List.isEmpty (p) = true := by simp [hp0]
              have HP0 := Lib.hid hp0; clear hp0
              go_wp2_with (go_at_call 20; refine (WriteString_any w.heap.size _ acc _ _ (by first | exact hbl.alloc _ | exact (hbl.alloc _).below hb1) (by omega) (by first | omega | (simp; done)) (by first | (simp; omega) | omega)).mono ?_; rintro e w2 ⟨rfl, hbl2, hfr2⟩)
              go_roundw
              case rel =>
                refine ⟨k + 1, acc ++ els, by omega, by go_num, hbl2, ?_, Lib.hid ?_, Lib.hid ?_⟩
                · exact (hb.alloc hB _).trans (hfr2.below (by simp; omega) (by simp; have := hbl.le; omega))
                · have := HL.out; rw [List.length_append]; have hp := HPL.out; rw [HPV.out] at hp; rw [Nat.succ_mul]; omega
                · rw [Hr.out, List.append_assoc, ← HPV.out, ← HR.out]
              case measure => simp [intOf]; omega
            · have HPV : Hid (piece ps ⟨3, (fn : Int), cse, thn, els⟩ = thn) := Lib.hid (by simp only [piece]; rw [HPO.out]; simp [hp0])
              have he : List.isEmpty (p) = false := by simpa using hp0
              have HP0 := Lib.hid hp0; clear hp0
              go_wp2_with (go_at_call 20; refine (WriteString_any w.heap.size _ acc _ _ (by first | exact hbl.alloc _ | exact (hbl.alloc _).below hb1) (by omega) (by first | omega | (simp; done)) (by first | (simp; omega) | omega)).mono ?_; rintro e w2 ⟨rfl, hbl2, hfr2⟩)
              go_roundw
              case rel =>
                refine ⟨k + 1, acc ++ thn, by omega, by go_num, hbl2, ?_, Lib.hid ?_, Lib.hid ?_⟩
                · exact (hb.alloc hB _).trans (hfr2.below (by simp; omega) (by simp; have := hbl.le; omega))
                · have := HL.out; rw [List.length_append]; have hp := HPL.out; rw [HPV.out] at hp; rw [Nat.succ_mul]; omega
                · rw [Hr.out, List.append_assoc, ← HPV.out, ← HR.out]
              case measure => simp [intOf]; omega
          · simp only at hkind; subst hkind
            by_cases hp0 : p = []
            · have HPV : Hid (piece ps ⟨4, (fn : Int), cse, thn, els⟩ = els) := Lib.hid (by simp only [piece]; rw [HPO.out]; simp [hp0])
              have he : List.isEmpty (p) = true := by simp [hp0]
              have HP0 := Lib.hid hp0; clear hp0
              go_wp2_with (go_at_call 20; refine (WriteString_any w.heap.size _ acc _ _ (by first | exact hbl.alloc _ | exact (hbl.alloc _).below hb1) (by omega) (by first | omega | (simp; done)) (by first | (simp; omega) | omega)).mono ?_; rintro e w2 ⟨rfl, hbl2, hfr2⟩)
              go_roundw
              case rel =>
                refine ⟨k + 1, acc ++ els, by omega, by go_num, hbl2, ?_, Lib.hid ?_, Lib.hid ?_⟩
                · exact (hb.alloc hB _).trans (hfr2.below (by simp; omega) (by simp; have := hbl.le; omega))
                · have := HL.out; rw [List.length_append]; have hp := HPL.out; rw [HPV.out] at hp; rw [Nat.succ_mul]; omega
                · rw [Hr.out, List.append_assoc, ← HPV.out, ← HR.out]
              case measure => simp [intOf]; omega
            · have HPV : Hid (piece ps ⟨4, (fn : Int), cse, thn, els⟩ = p) := Lib.hid (by simp only [piece]; rw [HPO.out]; simp [hp0])
              have he : List.isEmpty (p) = false := by simpa using hp0
              have HP0 := Lib.hid hp0; clear hp0
              go_wp2_with (go_at_call 20; refine (WriteString_any w.heap.size _ acc _ _ (by first | exact hbl.alloc _ | exact (hbl.alloc _).below hb1) (by omega) (by first | omega | (simp; done)) (by first | (simp; omega) | omega)).mono ?_; rintro e w2 ⟨rfl, hbl2, hfr2⟩)
              go_roundw
              case rel =>
                refine ⟨k + 1, acc ++ p, by omega, by go_num, hbl2, ?_, Lib.hid ?_, Lib.hid ?_⟩
                · exact (hb.alloc hB _).trans (hfr2.below (by simp; omega) (by simp; have := hbl.le; omega))
                · have := HL.out; rw [List.length_append]; have hp := HPL.out; rw [HPV.out] at hp; rw [Nat.succ_mul]; omega
                · rw [Hr.out, List.append_assoc, ← HPV.out, ← HR.out]
              case measure => simp [intOf]; omega
          · simp only at hkind; subst hkind
            by_cases hp0 : p = []
            · have HPV : Hid (piece ps ⟨5, (fn : Int), cse, thn, els⟩ = els) := Lib.hid (by simp only [piece]; rw [HPO.out]; simp [hp0])
              have he : List.isEmpty (p) = true := by simp [hp0]
              have HP0 := Lib.hid hp0; clear hp0
              go_wp2_with (go_at_call 20; refine (WriteString_any w.heap.size _ acc _ _ (by first | exact hbl.alloc _ | exact (hbl.alloc _).below hb1) (by omega) (by first | omega | (simp; done)) (by first | (simp; omega) | omega)).mono ?_; rintro e w2 ⟨rfl, hbl2, hfr2⟩)
              go_roundw
              case rel =>
                refine ⟨k + 1, acc ++ els, by omega, by go_num, hbl2, ?_, Lib.hid ?_, Lib.hid ?_⟩
                · exact (hb.alloc hB _).trans (hfr2.below (by simp; omega) (by simp; have := hbl.le; omega))
                · have := HL.out; rw [List.length_append]; have hp := HPL.out; rw [HPV.out] at hp; rw [Nat.succ_mul]; omega
                · rw [Hr.out, List.append_assoc, ← HPV.out, ← HR.out]
              case measure => simp [intOf]; omega
            · have HPV : Hid (piece ps ⟨5, (fn : Int), cse, thn, els⟩ = thn) := Lib.hid (by simp only [piece]; rw [HPO.out]; simp [hp0])
              have he : List.isEmpty (p) = false := by simpa using hp0
              have HP0 := Lib.hid hp0; clear hp0
              go_wp2_with (go_at_call 20; refine (WriteString_any w.heap.size _ acc _ _ (by first | exact hbl.alloc _ | exact (hbl.alloc _).below hb1) (by omega) (by first | omega | (simp; done)) (by first | (simp; omega) | omega)).mono ?_; rintro e w2 ⟨rfl, hbl2, hfr2⟩)
              go_roundw
              case rel =>
                refine ⟨k + 1, acc ++ thn, by omega, by go_num, hbl2, ?_, Lib.hid ?_, Lib.hid ?_⟩
                · exact (hb.alloc hB _).trans (hfr2.below (by simp; omega) (by simp; have := hbl.le; omega))
                · have := HL.out; rw [List.length_append]; have hp := HPL.out; rw [HPV.out] at hp; rw [Nat.succ_mul]; omega
                · rw [Hr.out, List.append_assoc, ← HPV.out, ← HR.out]
              case measure => simp [intOf]; omega
        · have HPO : Hid (partOf ps (fn : Int) = []) := Lib.hid (by simp [partOf, List.getD_eq_getElem?_getD, List.getElem?_eq_none (by omega : ps.length ≤ fn)])
          have hlt' : n' ≤ fn := by have := Hn'.out; omega
          have hpl : ([] : Str).length ≤ m := by simp
          clear hlt
          rcases hkind with hkind | hkind | hkind | hkind | hkind | hkind
          · simp only at hkind; subst hkind
            have HPV : Hid (piece ps ⟨0, (fn : Int), cse, thn, els⟩ = thn) := Lib.hid (by simp only [piece]; rw [HPO.out]; rfl)
            go_wp2_with (go_at_call 20; refine (WriteString_any w.heap.size _ acc _ _ (by first | exact hbl.alloc _ | exact (hbl.alloc _).below hb1) (by omega) (by first | omega | (simp; done)) (by first | (simp; omega) | omega)).mono ?_; rintro e w2 ⟨rfl, hbl2, hfr2⟩)
            go_roundw
            case rel =>
              refine ⟨k + 1, acc ++ thn, by omega, by go_num, hbl2, ?_, Lib.hid ?_, Lib.hid ?_⟩
              · exact (hb.alloc hB _).trans (hfr2.below (by simp; omega) (by simp; have := hbl.le; omega))
              · have := HL.out; rw [List.length_append]; have hp := HPL.out; rw [HPV.out] at hp; rw [Nat.succ_mul]; omega
              · rw [Hr.out, List.append_assoc, ← HPV.out, ← HR.out]
            case measure => simp [intOf]; omega
          · simp only at hkind; subst hkind
            have HPV : Hid (piece ps ⟨1, (fn : Int), cse, thn, els⟩ = ([] : Str)) := Lib.hid (by simp only [piece]; rw [HPO.out]; rfl)
            go_wp2_with (go_at_call 20; refine (WriteString_any w.heap.size _ acc _ _ (by first | exact hbl.alloc _ | exact (hbl.alloc _).below hb1) (by omega) (by first | omega | (simp; done)) (by first | (simp; omega) | omega)).mono ?_; rintro e w2 ⟨rfl, hbl2, hfr2⟩)
            go_roundw
            case rel =>
              refine ⟨k + 1, acc ++ ([] : Str), by omega, by go_num, hbl2, ?_, Lib.hid ?_, Lib.hid ?_⟩
              · exact (hb.alloc hB _).trans (hfr2.below (by simp; omega) (by simp; have := hbl.le; omega))
              · have := HL.out; rw [List.length_append]; have hp := HPL.out; rw [HPV.out] at hp; rw [Nat.succ_mul]; omega
              · rw [Hr.out, List.append_assoc, ← HPV.out, ← HR.out]
            case measure => simp [intOf]; omega
          · simp only at hkind; subst hkind
            have htl := turn_length (([] : Str)) cse
            have HPV : Hid (piece ps ⟨2, (fn : Int), cse, thn, els⟩ = (turn (([] : Str)) cse).1) := Lib.hid (by simp only [piece]; rw [HPO.out]; rfl)
            go_wp2_with (first | (go_at_call 27; refine (Turn_any _ _ _ (by first | omega | (simp; done))).mono ?_; rintro e w1 ⟨rfl, hb1⟩; have hz1 := hb1.size; simp only [World.size_alloc] at hz1) | (go_at_call 20; refine (WriteString_any w.heap.size _ acc _ _ ((hbl.alloc _).below hb1) (by omega) (by first | omega | (simp; done)) (by omega)).mono ?_; rintro e w2 ⟨rfl, hbl2, hfr2⟩))
            go_roundw
            case rel =>
              refine ⟨k + 1, acc ++ (turn (([] : Str)) cse).1, by omega, by go_num, hbl2, ?_, Lib.hid ?_, Lib.hid ?_⟩
              · exact ((hb.alloc hB _).trans (hb1.mono (by simp; omega))).trans (hfr2.below (by omega) (by simp; have := hbl.le; omega))
              · have := HL.out; rw [List.length_append]; have hp := HPL.out; rw [HPV.out] at hp; rw [Nat.succ_mul]; omega
              · rw [Hr.out, List.append_assoc, ← HPV.out, ← HR.out]
            case measure => simp [intOf]; omega
          · simp only at hkind; subst hkind
            have HPV : Hid (piece ps ⟨3, (fn : Int), cse, thn, els⟩ = els) := Lib.hid (by simp only [piece]; rw [HPO.out]; simp)
            go_wp2_with (go_at_call 20; refine (WriteString_any w.heap.size _ acc _ _ (by first | exact hbl.alloc _ | exact (hbl.alloc _).below hb1) (by omega) (by first | omega | (simp; done)) (by first | (simp; omega) | omega)).mono ?_; rintro e w2 ⟨rfl, hbl2, hfr2⟩)
            go_roundw
            case rel =>
              refine ⟨k + 1, acc ++ els, by omega, by go_num, hbl2, ?_, Lib.hid ?_, Lib.hid ?_⟩
              · exact (hb.alloc hB _).trans (hfr2.below (by simp; omega) (by simp; have := hbl.le; omega))
              · have := HL.out; rw [List.length_append]; have hp := HPL.out; rw [HPV.out] at hp; rw [Nat.succ_mul]; omega
              · rw [Hr.out, List.append_assoc, ← HPV.out, ← HR.out]
            case measure => simp [intOf]; omega
          · simp only at hkind; subst hkind
            have HPV : Hid (piece ps ⟨4, (fn : Int), cse, thn, els⟩ = els) := Lib.hid (by simp only [piece]; rw [HPO.out]; simp)
            go_wp2_with (go_at_call 20; refine (WriteString_any w.heap.size _ acc _ _ (by first | exact hbl.alloc _ | exact (hbl.alloc _).below hb1) (by omega) (by first | omega | (simp; done)) (by first | (simp; omega) | omega)).mono ?_; rintro e w2 ⟨rfl, hbl2, hfr2⟩)
            go_roundw
            case rel =>
              refine ⟨k + 1, acc ++ els, by omega, by go_num, hbl2, ?_, Lib.hid ?_, Lib.hid ?_⟩
              · exact (hb.alloc hB _).trans (hfr2.below (by simp; omega) (by simp; have := hbl.le; omega))
              · have := HL.out; rw [List.length_append]; have hp := HPL.out; rw [HPV.out] at hp; rw [Nat.succ_mul]; omega
              · rw [Hr.out, List.append_assoc, ← HPV.out, ← HR.out]
            case measure => simp [intOf]; omega
          · simp only at hkind; subst hkind
            have HPV : Hid (piece ps ⟨5, (fn : Int), cse, thn, els⟩ = els) := Lib.hid (by simp only [piece]; rw [HPO.out]; simp)
            go_wp2_with (go_at_call 20; refine (WriteString_any w.heap.size _ acc _ _ (by first | exact hbl.alloc _ | exact (hbl.alloc _).below hb1) (by omega) (by first | omega | (simp; done)) (by first | (simp; omega) | omega)).mono ?_; rintro e w2 ⟨rfl, hbl2, hfr2⟩)
            go_roundw
            case rel =>
              refine ⟨k + 1, acc ++ els, by omega, by go_num, hbl2, ?_, Lib.hid ?_, Lib.hid ?_⟩
              · exact (hb.alloc hB _).trans (hfr2.below (by simp; omega) (by simp; have := hbl.le; omega))
              · have := HL.out; rw [List.length_append]; have hp := HPL.out; rw [HPV.out] at hp; rw [Nat.succ_mul]; omega
              · rw [Hr.out, List.append_assoc, ← HPV.out, ← HR.out]
            case measure => simp [intOf]; omega
  · have HA : Hid (applyF fs ps = []) := Lib.hid (if_neg hmay)
    rw [HA.out]
    have hm' : mayFs fs = false := by simpa using hmay
    clear hmay
    go_enter Tryd.func13, Tryd.ntmps13
    go_wp2_with (go_at_call 11; refine (May_any _ _ _ fs _ HSl.out (by omega)).mono ?_; rintro e w0 ⟨rfl, hb0⟩)
    go_ret
    exact ⟨rfl, hb0⟩
end Go.Proofs.YtlomkfennnmkdaaDoor
