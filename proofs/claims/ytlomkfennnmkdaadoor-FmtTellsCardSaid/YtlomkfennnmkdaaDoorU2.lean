/- walks of the references: gimletref17.Words, Turn -/
import Derived.Test.YtlomkfennnmkdaaDoorU1
import Derived.Deep.AppendLies
namespace Go.Proofs.YtlomkfennnmkdaaDoor
open Go.RowKit
theorem str_info2 : (Tryd.prog.info? 9).map (fun i => (i.zero, i.size, i.bytes)) = some (some (.string ⟨#[]⟩), 1, 16) := by kernel_rfl
theorem rin_gen (z : Int) (w : World) (h0 : 0 ≤ z) (h1 : z < 256) : Calls Tryd.prog 52 #[.int .u8 z] w fun e w' => e = .returned (.bool (wordB (UInt8.ofNat z.toNat))) ∧ w = w' := by
  have h := rin_any (UInt8.ofNat z.toNat) w rfl
  rw [show ((UInt8.ofNat z.toNat).toNat : Int) = z by rw [ofNat_nat h1]; omega] at h
  exact h
def WdRel (l : Str) (T : List Str) (w : World) (v q : Value) (wr : World) : Prop :=
  ∃ (i : Nat) (ws : List Str) (pw : Bool), i ≤ l.length ∧ q = .int .i64 i ∧ wr.ownsRow w.heap.size 9 1 v ws.length (scells ws) ∧ Below w.heap.size w wr ∧ ws.length ≤ i ∧
    Hid (∀ x ∈ ws, x.length ≤ i) ∧ Hid ((i = 0 → pw = false) ∧ (0 < i → ∀ x, l[i - 1]? = some x → wordB x = pw)) ∧ Hid (pw = true → ws ≠ []) ∧ Hid (wordsL pw (l.drop i) ws = T)
theorem words_stored {W : World} {B g cap : Nat} {ini : List Str} {lst : Str} (h : W.ownsRow B 9 1 (.slice (some ⟨g, 0, none⟩) (ini.length + 1) cap) (ini.length + 1) (scells (ini ++ [lst]))) (s : Str) :
    (W.setCell ⟨g, ini.length, none⟩ (.string ⟨(s).toArray⟩)).drew.ownsRow B 9 1 (.slice (some ⟨g, 0, none⟩) (ini.length + 1) cap) (ini ++ [s]).length (scells (ini ++ [s])) := by
  have h1 := (h.stored ini.length (.string ⟨(s).toArray⟩)).1.drew
  have h2 : (scells (ini ++ [lst])).set ini.length (.string ⟨(s).toArray⟩) = scells (ini ++ [s]) := by
    simp only [scells, List.map_append, List.map_cons, List.map_nil]
    rw [List.set_append_right _ _ (by simp), List.length_map, Nat.sub_self]; rfl
  rw [h2] at h1
  simpa using h1
set_option maxHeartbeats 4000000 in
theorem rWords_any (l : Str) (w : World) (hs : l.length ≤ 1000000) :
    Calls Tryd.prog 43 #[.string ⟨(l).toArray⟩] w fun e w' => ∃ (a : Option Addr) (c : Nat), e = .returned (.slice a (wordsL false l []).length c) ∧ w'.ownsRow w.heap.size 9 1 (.slice a (wordsL false l []).length c) (wordsL false l []).length (scells (wordsL false l [])) ∧ Below w.heap.size w w' ∧ (wordsL false l []).length ≤ l.length ∧ ∀ x ∈ wordsL false l [], x.length ≤ l.length := by
  obtain ⟨T, hT⟩ : ∃ T, wordsL false l [] = T := ⟨_, rfl⟩
  rw [hT]
  have HR0 : Hid (wordsL false (l.drop 0) [] = T) := Lib.hid hT
  obtain ⟨iu, hiu⟩ := info_parts str_info2
  clear hT
  go_enter Tryd.func43, Tryd.ntmps43
  go_wp2
  go_loopw [3, 4] (fun v q wr => WdRel l T w v q wr) (fun _ q _ => l.length - (intOf q).toNat)
  case atStart => exact ⟨0, [], false, by omega, rfl, World.ownsRow_nil _ _ _ _, Below.refl _ _, by simp, Lib.hid (by simp), Lib.hid ⟨fun _ => rfl, fun h => by omega⟩, Lib.hid (by simp), HR0⟩
  case round =>
    obtain ⟨i, ws, pw, hik, rfl, hown, hb, hwl, HL, HP, HN, HF⟩ := hrel
    clear HR0
    have hB := hb.size
    cases hd : l.drop i with
    | nil =>
      have h2 := drop_nil hd
      have HE : Hid (ws = T) := Lib.hid (by rw [← HF.out, hd]; rfl)
      obtain ⟨a, c, rfl⟩ := own_form hown
      clear hd HF
      go_wp2
      go_ret
      refine ⟨a, c, by rw [← HE.out]; rfl, by rw [← HE.out]; exact hown, hb, by rw [← HE.out]; omega, fun x hx => ?_⟩
      rw [← HE.out] at hx
      have := HL.out x hx; omega
    | cons c r =>
      obtain ⟨h2, h3, hr⟩ := drop_cons hd
      have Hr := Lib.hid hr
      have hc256 := u8_lt c
      cases hw : wordB c with
      | false =>
        have HW := Lib.hid hw
        have HE : Hid (wordsL false r ws = T) := Lib.hid (by rw [← HF.out, hd]; simp only [wordsL]; rw [hw]; rfl)
        obtain ⟨a, cp, rfl⟩ := own_form hown
        clear hd HF hr hw
        go_wp2_with (go_at_call 52; refine (rin_gen _ _ (by omega) (by omega)).mono ?_; rintro e w1 ⟨rfl, rfl⟩; rw [u8_back]; first | rw [HW.out] | rw [HWP.out])
        go_roundw
        case rel =>
          refine ⟨i + 1, ws, false, by omega, by go_num, hown, hb, by omega, Lib.hid (fun x hx => by have := HL.out x hx; omega), Lib.hid ⟨fun h => by omega, fun _ x hx => ?_⟩, Lib.hid (by simp), Lib.hid (by rw [Hr.out]; exact HE.out)⟩
          rw [show i + 1 - 1 = i from rfl, List.getElem?_eq_getElem h2, h3] at hx
          injection hx with hx; subst hx; exact HW.out
        case measure => simp [intOf]; omega
      | true =>
        have HW := Lib.hid hw
        cases pw with
        | true =>
          have HE : Hid (wordsL true r (addL ws c) = T) := Lib.hid (by rw [← HF.out, hd]; simp only [wordsL]; rw [hw]; rfl)
          have hi0 : 0 < i := by
            rcases Nat.eq_zero_or_pos i with h | h
            · have := HP.out.1 h; cases this
            · exact h
          obtain ⟨p, hp⟩ : ∃ p, l[i - 1]? = some p := ⟨_, List.getElem?_eq_getElem (by omega)⟩
          have HWP := Lib.hid (HP.out.2 hi0 p hp)
          have hx3 : ∀ h : i - 1 < l.length, l[i - 1]'h = p := fun h => by rw [List.getElem?_eq_getElem h] at hp; injection hp
          have hp256 := u8_lt p
          have hi0' : ((i : Int) == 0) = false := by rw [beq_eq_false_iff_ne]; omega
          obtain ⟨ini, lst, rfl⟩ := snoc_of_ne (HN.out rfl)
          have hln : (ini ++ [lst]).length = ini.length + 1 := by simp
          rw [hln] at hown hwl
          have HLN := Lib.hid hln
          clear hln
          obtain ⟨g, cap, rfl, hgB, hgl⟩ := World.ownsRow.form hown (by omega)
          have hce := (hown).cellAt ini.length (by omega)
          have hfz := (hown).frozenAt ini.length
          rw [show (scells (ini ++ [lst]))[ini.length]? = some (.string ⟨(lst).toArray⟩) by simp [scells]] at hce
          have ho := hown
          have hbo := hb
          have HL2 : Hid (∀ x ∈ ini, x.length ≤ i) := Lib.hid (fun x hx => HL.out x (List.mem_append_left _ hx))
          have HTK : Hid (List.take 1 (List.drop i l) = [c]) := Lib.hid (by rw [hd]; rfl)
          clear hd HF hr hw hp
          go_wp2_with (go_at_call 52; refine (rin_gen _ _ (by omega) (by omega)).mono ?_; rintro e w1 ⟨rfl, rfl⟩; rw [u8_back]; first | rw [HW.out] | rw [HWP.out])
          have hll := HL.out lst (by simp)
          go_region
          go_wp2
          rw [HTK.out]
          go_roundw
          case rel =>
            refine ⟨i + 1, ini ++ [lst ++ [c]], true, by omega, by go_num, words_stored ho _, (hbo.setCell hgB _).drew, by simp; omega, Lib.hid (fun x hx => ?_), Lib.hid ⟨fun h => by omega, fun _ x hx => ?_⟩, Lib.hid (by simp), Lib.hid (by rw [Hr.out, ← HE.out, addL_snoc])⟩
            · rcases List.mem_append.1 hx with hx | hx
              · have := HL2.out x hx; omega
              · simp at hx; subst hx; simp; omega
            · rw [show i + 1 - 1 = i from rfl, List.getElem?_eq_getElem h2, h3] at hx
              injection hx with hx; subst hx; exact HW.out
          case measure => simp [intOf]; omega
        | false =>
          have HE : Hid (wordsL true r (addL (ws ++ [[]]) c) = T) := Lib.hid (by rw [← HF.out, hd]; simp only [wordsL]; rw [hw]; rfl)
          have HTK : Hid (List.take 1 (List.drop i l) = [c]) := Lib.hid (by rw [hd]; rfl)
          rcases Nat.eq_zero_or_pos i with hi0 | hi0
          · have hi0' : ((i : Int) == 0) = true := by rw [beq_iff_eq]; omega
            have HI0 := Lib.hid hi0
            clear hd HF hr hw hi0
            obtain ⟨a0, c0, rfl⟩ := own_form hown
            go_wp2_with (first | (go_at_call 52; refine (rin_gen _ _ (by omega) (by omega)).mono ?_; rintro e w1 ⟨rfl, rfl⟩; rw [u8_back]; first | rw [HW.out] | rw [HWP.out]) | (at_builtin; refine wpList_app1 w.heap.size 9 rfl _ _ 23 rfl Tryd.underlying23 hiu rfl (by decide) rfl hown rfl (by first | rfl | simp) rfl (by simp [Value.oneCell']) (by omega) (by decide) hB ?_))
            intro v1 w1 ho1 hg1 hb1 hne1
            obtain ⟨ini, hini⟩ : ∃ ini, ini = ws := ⟨_, rfl⟩
            obtain ⟨lst, hlst⟩ : ∃ lst : Str, lst = [] := ⟨_, rfl⟩
            have hoo : w1.ownsRow w.heap.size 9 1 v1 (ini.length + 1) (scells (ini ++ [lst])) := by rw [hini, hlst]; simpa [scells] using ho1
            rw [← hini, ← hlst] at HE
            rw [← hini] at HL hwl
            have hll : lst.length ≤ i := by rw [hlst]; simp
            have HL2 : Hid (∀ x ∈ ini, x.length ≤ i) := HL
            have hbo : Below w.heap.size w w1 := hb.trans (hb1.mono (Nat.le_refl _))
            obtain ⟨g, cap, rfl, hgB, hgl⟩ := World.ownsRow.form hoo (by omega)
            have hce := hoo.cellAt ini.length (by omega)
            have hfz := hoo.frozenAt ini.length
            rw [show (scells (ini ++ [lst]))[ini.length]? = some (.string ⟨(lst).toArray⟩) by simp [scells]] at hce
            have ho := hoo
            clear hini hlst hoo ho1 hg1 hne1 hown
            go_wp2
            go_region
            go_wp2
            rw [HTK.out]
            go_roundw
            case rel =>
              refine ⟨i + 1, ini ++ [lst ++ [c]], true, by omega, by go_num, words_stored ho _, (hbo.setCell hgB _).drew, by simp; omega, Lib.hid (fun x hx => ?_), Lib.hid ⟨fun h => by omega, fun _ x hx => ?_⟩, Lib.hid (by simp), Lib.hid (by rw [Hr.out, ← HE.out, addL_snoc])⟩
              · rcases List.mem_append.1 hx with hx | hx
                · have := HL2.out x hx; omega
                · simp at hx; subst hx; simp; omega
              · rw [show i + 1 - 1 = i from rfl, List.getElem?_eq_getElem h2, h3] at hx
                injection hx with hx; subst hx; exact HW.out
            case measure => simp [intOf]; omega
          · obtain ⟨p, hp⟩ : ∃ p, l[i - 1]? = some p := ⟨_, List.getElem?_eq_getElem (by omega)⟩
            have HWP := Lib.hid (HP.out.2 hi0 p hp)
            have hx3 : ∀ h : i - 1 < l.length, l[i - 1]'h = p := fun h => by rw [List.getElem?_eq_getElem h] at hp; injection hp
            have hp256 := u8_lt p
            have hi0' : ((i : Int) == 0) = false := by rw [beq_eq_false_iff_ne]; omega
            clear hd HF hr hw hp
            obtain ⟨a0, c0, rfl⟩ := own_form hown
            go_wp2_with (first | (go_at_call 52; refine (rin_gen _ _ (by omega) (by omega)).mono ?_; rintro e w1 ⟨rfl, rfl⟩; rw [u8_back]; first | rw [HW.out] | rw [HWP.out]) | (at_builtin; refine wpList_app1 w.heap.size 9 rfl _ _ 23 rfl Tryd.underlying23 hiu rfl (by decide) rfl hown rfl (by first | rfl | simp) rfl (by simp [Value.oneCell']) (by omega) (by decide) hB ?_))
            intro v1 w1 ho1 hg1 hb1 hne1
            obtain ⟨ini, hini⟩ : ∃ ini, ini = ws := ⟨_, rfl⟩
            obtain ⟨lst, hlst⟩ : ∃ lst : Str, lst = [] := ⟨_, rfl⟩
            have hoo : w1.ownsRow w.heap.size 9 1 v1 (ini.length + 1) (scells (ini ++ [lst])) := by rw [hini, hlst]; simpa [scells] using ho1
            rw [← hini, ← hlst] at HE
            rw [← hini] at HL hwl
            have hll : lst.length ≤ i := by rw [hlst]; simp
            have HL2 : Hid (∀ x ∈ ini, x.length ≤ i) := HL
            have hbo : Below w.heap.size w w1 := hb.trans (hb1.mono (Nat.le_refl _))
            obtain ⟨g, cap, rfl, hgB, hgl⟩ := World.ownsRow.form hoo (by omega)
            have hce := hoo.cellAt ini.length (by omega)
            have hfz := hoo.frozenAt ini.length
            rw [show (scells (ini ++ [lst]))[ini.length]? = some (.string ⟨(lst).toArray⟩) by simp [scells]] at hce
            have ho := hoo
            clear hini hlst hoo ho1 hg1 hne1 hown
            go_wp2
            go_region
            go_wp2
            rw [HTK.out]
            go_roundw
            case rel =>
              refine ⟨i + 1, ini ++ [lst ++ [c]], true, by omega, by go_num, words_stored ho _, (hbo.setCell hgB _).drew, by simp; omega, Lib.hid (fun x hx => ?_), Lib.hid ⟨fun h => by omega, fun _ x hx => ?_⟩, Lib.hid (by simp), Lib.hid (by rw [Hr.out, ← HE.out, addL_snoc])⟩
              · rcases List.mem_append.1 hx with hx | hx
                · have := HL2.out x hx; omega
                · simp at hx; subst hx; simp; omega
              · rw [show i + 1 - 1 = i from rfl, List.getElem?_eq_getElem h2, h3] at hx
                injection hx with hx; subst hx; exact HW.out
            case measure => simp [intOf]; omega
end Go.Proofs.YtlomkfennnmkdaaDoor
