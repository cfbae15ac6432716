/- walk of the references: gimletref18.May -/
import Derived.Test.YtlomkfennnmkdaaDoorU3
import Derived.Test.YtlomkfennnmkdaaDoorFmD
namespace Go.Proofs.YtlomkfennnmkdaaDoor
open Go.RowKit
def MyRel (fs : List Fm) (R : Bool) (w : World) (q : Value) (wr : World) : Prop :=
  ∃ (k : Nat) (pt : Bool), k ≤ fs.length ∧ q = .int .i64 k ∧ Below w.heap.size w wr ∧ Hid ((k = 0 → pt = false) ∧ (0 < k → ∀ g, fs[k - 1]? = some g → decide (g.kind = 0) = pt)) ∧ Hid (mayL pt (fs.drop k) = R)
set_option maxRecDepth 100000 in
set_option maxHeartbeats 4000000 in
theorem rMay_any (a : Option Addr) (n c : Nat) (fs : List Fm) (w : World) (h : Sl w w.heap.size a 5 n (fcells fs)) (hn : n ≤ 1000000) :
    Calls Tryd.prog 12 #[.slice a n c] w fun e w' => e = .returned (.bool (mayFs fs)) ∧ Below w.heap.size w w' := by
  generalize hR : mayFs fs = R
  have HR := Lib.hid hR
  clear hR
  have HR0 : Hid (mayL false (fs.drop 0) = R) := HR
  obtain rfl := h.fs_len
  have HSl := Lib.hid h
  clear HR h
  go_enter Tryd.func12, Tryd.ntmps12
  go_wp2
  go_loopw [3] (fun q wr => MyRel fs R w q wr) (fun q _ => fs.length - (intOf q).toNat)
  case atStart => exact ⟨0, false, by omega, rfl, Below.refl _ _, Lib.hid ⟨fun _ => rfl, fun h => by omega⟩, HR0⟩
  case round =>
    obtain ⟨k, pt, hk, rfl, hb, HP, HF⟩ := hrel
    clear HR0
    have hB := hb.size
    cases hd : fs.drop k with
    | nil =>
      have h2 : fs.length ≤ k := by simpa using hd
      have HF' : Hid (R = true) := Lib.hid (by rw [← HF.out, hd]; rfl)
      clear hd HF
      go_wp2
      go_ret
      exact ⟨ret_bool HF'.out.symm, hb⟩
    | cons f r =>
      obtain ⟨h2, h3, hr⟩ := ldrop_cons hd
      have HF' : Hid (mayL pt (f :: r) = R) := Lib.hid (by rw [← hd]; exact HF.out)
      have Hr := Lib.hid hr
      have HK := Lib.hid h3
      obtain ⟨b, o, rfl, hbB, c0, c1, c2, c3, c4⟩ := (HSl.out.keep hb).fm h3
      clear hd HF hr h3
      obtain ⟨kind, fn, cse, thn, els⟩ := f
      have HQ : Hid (R = (mayF ⟨kind, fn, cse, thn, els⟩ && !(decide (kind = 0) && pt) && mayL (decide (kind = 0)) r)) := Lib.hid HF'.out.symm
      by_cases hk0 : kind = 0
      · subst hk0
        clear HF'
        by_cases hkk : k = 0
        · have hpt := HP.out.1 hkk
          have hkk' : ((k : Int) == 0) = true := by rw [beq_iff_eq]; omega
          subst hpt
          have HKK := Lib.hid hkk; clear hkk
          go_wp2
          all_goals first
            | (go_ret; refine ⟨ret_bool ?_, hb.alloc hB _⟩; rw [HQ.out]; clear HQ HK HSl Hr HP c0 c1 c2 c3 c4; (try unfold mayF blankB); simp; first | done | omega | (simp_all; done) | (simp_all; omega))
            | (go_roundw; (case rel => exact ⟨k + 1, true, by omega, by go_num, hb.alloc hB _, Lib.hid ⟨fun h => by omega, fun _ g hg => by rw [show k + 1 - 1 = k from rfl, HK.out] at hg; injection hg with hg; subst hg; rfl⟩, Lib.hid (by rw [Hr.out, HQ.out]; clear HQ HK HSl Hr HP c0 c1 c2 c3 c4; (try unfold mayF blankB); simp; first | done | omega | (simp_all; done) | (simp_all; omega))⟩); (case measure => simp [intOf]; omega))
        · obtain ⟨g, hg⟩ : ∃ g, fs[k - 1]? = some g := ⟨fs[k - 1]'(by omega), List.getElem?_eq_getElem (by omega)⟩
          have hpg := HP.out.2 (by omega) g hg
          obtain ⟨b', o', hab, _, g0, _⟩ := (HSl.out.keep hb).fm hg
          have hbo : b' = b ∧ o' = o := by simpa using hab.symm
          obtain ⟨rfl, rfl⟩ := hbo
          have ek : ((k - 1 : Nat) : Int) = (k : Int) - 1 := by omega
          have e1 : (k : Int) - 1 < fs.length ∧ 0 ≤ (k : Int) - 1 := by omega
          have hkk' : ((k : Int) == 0) = false := by rw [beq_eq_false_iff_ne]; omega
          have hkp : 0 < k := by omega
          obtain ⟨gk, gn, gc, gt, ge⟩ := g
          have HPG : Hid (pt = decide (gk = 0)) := Lib.hid hpg.symm
          have g1 : ∀ ob : Obj, (wr.alloc ob).cell? ⟨b', o' + (k - 1) * 5, none⟩ = some (.int .i64 gk) := fun ob => by
            rw [World.cell?_alloc_lt _ _ _ (by simp; omega)]; exact g0
          clear hab hpg hkk hg
          by_cases hgk : gk = 0
          · have HQ2 : Hid (R = false) := Lib.hid (by rw [HQ.out, HPG.out]; simp [hgk])
            subst hgk
            clear HQ
            go_wp2
            all_goals (go_ret; exact ⟨ret_bool HQ2.out.symm, hb.alloc hB _⟩)
          · have hpf : pt = false := by rw [HPG.out]; simp [hgk]
            have eg : (gk == 0) = false := by rw [beq_eq_false_iff_ne]; exact hgk
            subst hpf
            clear hgk HPG
            go_wp2
            all_goals first
              | (go_ret; refine ⟨ret_bool ?_, hb.alloc hB _⟩; rw [HQ.out]; clear HQ HK HSl Hr HP c0 c1 c2 c3 c4; (try unfold mayF blankB); simp; first | done | omega | (simp_all; done) | (simp_all; omega))
              | (go_roundw; (case rel => exact ⟨k + 1, true, by omega, by go_num, hb.alloc hB _, Lib.hid ⟨fun h => by omega, fun _ g hg => by rw [show k + 1 - 1 = k from rfl, HK.out] at hg; injection hg with hg; subst hg; rfl⟩, Lib.hid (by rw [Hr.out, HQ.out]; clear HQ HK HSl Hr HP c0 c1 c2 c3 c4; (try unfold mayF blankB); simp; first | done | omega | (simp_all; done) | (simp_all; omega))⟩); (case measure => simp [intOf]; omega))
      by_cases hk1 : kind = 1
      · subst hk1
        clear HF'
        go_wp2
        all_goals first
          | (go_ret; refine ⟨ret_bool ?_, hb.alloc hB _⟩; rw [HQ.out]; clear HQ HK HSl Hr HP c0 c1 c2 c3 c4; (try unfold mayF blankB); simp; first | done | omega | (simp_all; done) | (simp_all; omega))
          | (go_roundw; (case rel => exact ⟨k + 1, false, by omega, by go_num, hb.alloc hB _, Lib.hid ⟨fun h => by omega, fun _ g hg => by rw [show k + 1 - 1 = k from rfl, HK.out] at hg; injection hg with hg; subst hg; rfl⟩, Lib.hid (by rw [Hr.out, HQ.out]; clear HQ HK HSl Hr HP c0 c1 c2 c3 c4; (try unfold mayF blankB); simp; first | done | omega | (simp_all; done) | (simp_all; omega))⟩); (case measure => simp [intOf]; omega))
      by_cases hk2 : kind = 2
      · subst hk2
        clear HF'
        obtain ⟨nm, hnm⟩ : ∃ nm, nameOf cse = nm := ⟨_, rfl⟩
        have HNM := Lib.hid hnm
        have HQ2 : Hid (R = (decide (0 ≤ fn ∧ fn ≤ 9999) && decide (nm ≠ []) && decide (thn = []) && decide (els = []) && mayL false r)) := Lib.hid (by
          rw [HQ.out]; simp only [mayF, blankB]; rw [if_neg (by decide), if_neg (by decide), if_pos trivial, hnm, Bool.eq_iff_iff]; simp; intro _; constructor <;> (intro h; simp_all))
        clear hnm HQ
        have HQ := HQ2
        cases nm with
        | nil =>
          go_wp2_with (go_at_call 25; refine (rName_any _ _).mono ?_; rintro e w1 ⟨rfl, rfl⟩; rw [HNM.out])
          all_goals
            (go_ret; refine ⟨ret_bool ?_, hb.alloc hB _⟩; rw [HQ.out]; clear HQ HK HSl Hr HP c0 c1 c2 c3 c4; (try unfold mayF blankB); simp; first | done | omega | (simp_all; done) | (simp_all; omega))
        | cons n0 nr =>
          go_wp2_with (go_at_call 25; refine (rName_any _ _).mono ?_; rintro e w1 ⟨rfl, rfl⟩; rw [HNM.out])
          all_goals first
            | (go_ret; refine ⟨ret_bool ?_, hb.alloc hB _⟩; rw [HQ.out]; clear HQ HK HSl Hr HP c0 c1 c2 c3 c4; (try unfold mayF blankB); simp; first | done | omega | (simp_all; done) | (simp_all; omega))
            | (go_roundw; (case rel => exact ⟨k + 1, false, by omega, by go_num, hb.alloc hB _, Lib.hid ⟨fun h => by omega, fun _ g hg => by rw [show k + 1 - 1 = k from rfl, HK.out] at hg; injection hg with hg; subst hg; rfl⟩, Lib.hid (by rw [Hr.out, HQ.out]; clear HQ HK HSl Hr HP c0 c1 c2 c3 c4; (try unfold mayF blankB); simp; first | done | omega | (simp_all; done) | (simp_all; omega))⟩); (case measure => simp [intOf]; omega))
      by_cases hk3 : kind = 3
      · subst hk3
        clear HF'
        go_wp2
        all_goals first
          | (go_ret; refine ⟨ret_bool ?_, hb.alloc hB _⟩; rw [HQ.out]; clear HQ HK HSl Hr HP c0 c1 c2 c3 c4; (try unfold mayF blankB); simp; first | done | omega | (simp_all; done) | (simp_all; omega))
          | (go_roundw; (case rel => exact ⟨k + 1, false, by omega, by go_num, hb.alloc hB _, Lib.hid ⟨fun h => by omega, fun _ g hg => by rw [show k + 1 - 1 = k from rfl, HK.out] at hg; injection hg with hg; subst hg; rfl⟩, Lib.hid (by rw [Hr.out, HQ.out]; clear HQ HK HSl Hr HP c0 c1 c2 c3 c4; (try unfold mayF blankB); simp; first | done | omega | (simp_all; done) | (simp_all; omega))⟩); (case measure => simp [intOf]; omega))
      by_cases hk4 : kind = 4
      · subst hk4
        clear HF'
        go_wp2
        all_goals first
          | (go_ret; refine ⟨ret_bool ?_, hb.alloc hB _⟩; rw [HQ.out]; clear HQ HK HSl Hr HP c0 c1 c2 c3 c4; (try unfold mayF blankB); simp; first | done | omega | (simp_all; done) | (simp_all; omega))
          | (go_roundw; (case rel => exact ⟨k + 1, false, by omega, by go_num, hb.alloc hB _, Lib.hid ⟨fun h => by omega, fun _ g hg => by rw [show k + 1 - 1 = k from rfl, HK.out] at hg; injection hg with hg; subst hg; rfl⟩, Lib.hid (by rw [Hr.out, HQ.out]; clear HQ HK HSl Hr HP c0 c1 c2 c3 c4; (try unfold mayF blankB); simp; first | done | omega | (simp_all; done) | (simp_all; omega))⟩); (case measure => simp [intOf]; omega))
      by_cases hk5 : kind = 5
      · subst hk5
        clear HF'
        go_wp2
        all_goals first
          | (go_ret; refine ⟨ret_bool ?_, hb.alloc hB _⟩; rw [HQ.out]; clear HQ HK HSl Hr HP c0 c1 c2 c3 c4; (try unfold mayF blankB); simp; first | done | omega | (simp_all; done) | (simp_all; omega))
          | (go_roundw; (case rel => exact ⟨k + 1, false, by omega, by go_num, hb.alloc hB _, Lib.hid ⟨fun h => by omega, fun _ g hg => by rw [show k + 1 - 1 = k from rfl, HK.out] at hg; injection hg with hg; subst hg; rfl⟩, Lib.hid (by rw [Hr.out, HQ.out]; clear HQ HK HSl Hr HP c0 c1 c2 c3 c4; (try unfold mayF blankB); simp; first | done | omega | (simp_all; done) | (simp_all; omega))⟩); (case measure => simp [intOf]; omega))
      · have HE : Hid (R = false) := Lib.hid (by
          rw [HQ.out]; simp only [mayF]
          rw [if_neg hk0, if_neg hk1, if_neg hk2, if_neg hk3, if_neg hk4, if_neg hk5]; simp)
        have g0 : (kind == 0) = false := by simpa using hk0
        have g1 : (kind == 1) = false := by simpa using hk1
        have g2 : (kind == 2) = false := by simpa using hk2
        have g3 : (kind == 3) = false := by simpa using hk3
        have g4 : (kind == 4) = false := by simpa using hk4
        have g5 : (kind == 5) = false := by simpa using hk5
        clear hk0 hk1 hk2 hk3 hk4 hk5 HQ HF'
        go_wp2
        all_goals (go_ret; exact ⟨ret_bool HE.out.symm, hb.alloc hB _⟩)
end Go.Proofs.YtlomkfennnmkdaaDoor
