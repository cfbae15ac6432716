/- walks of the references: ref2.Lead, ref11.Split, Proper -/
import Derived.Test.YtemophfieihgaaaR2
set_option maxRecDepth 100000
namespace Go.Proofs.Ytemophfieihgaaa
open Go.RowKit
theorem Lead_any (c : UInt8) {b : Bool} (w : World) (h : insideB c = b) : Calls Try.prog 21 #[.int .u8 c.toNat] w fun e w' => e = .returned (.bool (!b)) ∧ w = w' := by
  subst h
  have h256 := u8_lt c
  go_enter Try.func21, Try.ntmps21
  go_wp2
  all_goals
    go_ret
    refine ⟨ret_bool ?_, rfl⟩
    rw [Bool.eq_iff_iff]; simp [insideB] <;> omega
/-- A text's characters, told with the one at hand. -/
def splitR : Str → Str → List Str
  | cur, [] => [cur]
  | cur, c :: r => if insideB c = true then splitR (cur ++ [c]) r else cur :: splitR [c] r
def splitL : Str → List Str
  | [] => []
  | c :: r => splitR [c] r
theorem splitR_len : ∀ (r cur : Str), 1 ≤ (splitR cur r).length
  | [], cur => by simp [splitR]
  | c :: r, cur => by simp only [splitR]; split <;> simp [splitR_len]
theorem splitR_one : ∀ (r cur : Str), ((splitR cur r).length = 1) ↔ r.all insideB = true
  | [], cur => by simp [splitR]
  | c :: r, cur => by
    have := splitR_len r [c]
    have ih := splitR_one r (cur ++ [c])
    simp only [splitR]
    cases h : insideB c with
    | true => rw [if_pos rfl]; simp [h, ih]
    | false => rw [if_neg (by simp)]; simp [h]; intro e; rw [e] at this; simp at this
theorem splitR_cnt : ∀ (r cur : Str), (splitR cur r).length ≤ r.length + 1
  | [], cur => by simp [splitR]
  | c :: r, cur => by
    have h1 := splitR_cnt r (cur ++ [c])
    have h2 := splitR_cnt r [c]
    simp only [splitR]; split <;> simp <;> omega
theorem proper_split (c : UInt8) (r : Str) : properB (c :: r) = (!insideB c && decide ((splitL (c :: r)).length = 1)) := by
  rw [Bool.eq_iff_iff]; simp only [properB, Bool.and_eq_true, decide_eq_true_eq, splitL, splitR_one]
theorem splitL_cnt (l : Str) : (splitL l).length ≤ l.length := by
  cases l with
  | nil => simp [splitL]
  | cons c r => have := splitR_cnt r [c]; simp only [splitL, List.length_cons]; omega
theorem str_info : (Try.prog.info? 9).map (fun i => (i.zero, i.size, i.bytes)) = some (some (.string ⟨#[]⟩), 1, 16) := by kernel_rfl
def SpRelR (l : Str) (T : List Str) (w : World) (o f q : Value) (wr : World) : Prop :=
  ∃ (i fr : Nat) (out : List Str), q = .int .i64 i ∧ f = .int .i64 fr ∧ wr.ownsRow w.heap.size 9 1 o out.length (scells out) ∧ Below w.heap.size w wr ∧ 1 ≤ i ∧
    ((i ≤ l.length ∧ fr < i ∧ Hid (out ++ splitR ((l.drop fr).take (i - fr)) (l.drop i) = T)) ∨ (i = l.length + 1 ∧ Hid (out = T)))
def SplitPost (l : Str) (w : World) (e : Ending) (w' : World) : Prop :=
  ∃ (a : Option Addr) (c : Nat), e = .returned (.slice a (splitL l).length c) ∧ w'.ownsRow w.heap.size 9 1 (.slice a (splitL l).length c) (splitL l).length (scells (splitL l)) ∧ Below w.heap.size w w'
set_option maxHeartbeats 1000000 in
theorem RSplit_any (l : Str) (w : World) (hl : l.length ≤ 1000000) :
    Calls Try.prog 12 #[.string ⟨(l).toArray⟩] w fun e w' => SplitPost l w e w' := by
  obtain ⟨T, hT⟩ : ∃ T, splitL l = T := ⟨_, rfl⟩
  unfold SplitPost
  rw [hT]
  have hTN : T.length ≤ l.length := by rw [← hT]; exact splitL_cnt l
  have HT := Lib.hid hT
  clear hT
  have HI0 : Hid ((1 ≤ l.length ∧ 0 < 1 ∧ Hid (([] : List Str) ++ splitR ((l.drop 0).take (1 - 0)) (l.drop 1) = T)) ∨ (1 = l.length + 1 ∧ Hid (([] : List Str) = T))) := Lib.hid (by
    cases l with
    | nil => exact .inr ⟨rfl, Lib.hid (by rw [← HT.out]; rfl)⟩
    | cons c r => exact .inl ⟨by simp, by omega, Lib.hid (by rw [← HT.out]; simp [splitL])⟩)
  obtain ⟨iu, hiu⟩ := info_parts str_info
  go_enter Try.func12, Try.ntmps12
  go_wp2
  go_loopw [3, 4, 5] (fun o f q wr => SpRelR l T w o f q wr) (fun _ _ q _ => l.length + 1 - (intOf q).toNat)
  case atStart => exact ⟨1, 0, [], rfl, rfl, World.ownsRow_nil _ _ _ _, Below.refl _ _, by omega, HI0.out⟩
  case round =>
    obtain ⟨i, fr, out, rfl, rfl, hown, hb, hi1, HF⟩ := hrel
    clear HI0 HT
    have hB := hb.size
    rcases HF with ⟨hi, hfi, HF⟩ | ⟨hi, HF⟩
    · have hol : out.length ≤ l.length := by have h := congrArg List.length HF.out; simp only [List.length_append] at h; omega
      by_cases hil : i = l.length
      · subst hil
        have HE : Hid (out ++ [(l.drop fr).take (l.length - fr)] = T) := Lib.hid (by rw [← HF.out, List.drop_length]; rfl)
        clear HF
        go_wp2_with (at_builtin; refine wpList_app1 w.heap.size 9 rfl _ _ 33 rfl Try.underlying33 hiu rfl (by decide) rfl hown rfl (by first | rfl | simp) rfl (by simp [Value.oneCell']) (by omega) (by decide) hB ?_)
        intro v1 w1 ho1 hg1 hb1 hne1
        go_wp2
        go_roundw
        case rel => exact ⟨l.length + 1, l.length, _, by go_num, rfl, by rw [← HE.out]; simpa [scells] using ho1, hb.trans (hb1.mono (Nat.le_refl _)), by omega, .inr ⟨rfl, Lib.hid rfl⟩⟩
        case measure => simp [intOf] <;> omega
      · have hlt : i < l.length := by omega
        have hne : ((i : Int) == l.length) = false := by rw [beq_eq_false_iff_ne]; omega
        cases hd : l.drop i with
        | nil => have := drop_nil hd; omega
        | cons c r =>
          obtain ⟨_, h3, hr⟩ := drop_cons hd
          have HF2 : Hid (out ++ splitR ((l.drop fr).take (i - fr)) (c :: r) = T) := Lib.hid (by rw [← HF.out, hd])
          have Hr := Lib.hid hr
          have HD := Lib.hid hd
          clear hd HF hr hil
          cases hc : insideB c with
          | true =>
            go_wp2_with (go_at_call 21; refine (Lead_any c _ hc).mono ?_; rintro e w1 ⟨rfl, rfl⟩)
            go_roundw
            case rel =>
              refine ⟨i + 1, fr, out, by go_num, rfl, hown, hb, by omega, .inl ⟨by omega, by omega, Lib.hid ?_⟩⟩
              rw [Hr.out, ← HF2.out]; simp only [splitR]; rw [if_pos hc]
              congr 2
              rw [show i + 1 - fr = i - fr + 1 by omega, List.take_add_one]
              congr 1
              rw [List.getElem?_drop, show fr + (i - fr) = i by omega, List.getElem?_eq_getElem hlt, h3]; rfl
            case measure => simp [intOf] <;> omega
          | false =>
            go_wp2_with (first | (go_at_call 21; refine (Lead_any c _ hc).mono ?_; rintro e w1 ⟨rfl, rfl⟩) | (at_builtin; refine wpList_app1 w.heap.size 9 rfl _ _ 33 rfl Try.underlying33 hiu rfl (by decide) rfl hown rfl (by first | rfl | simp) rfl (by simp [Value.oneCell']) (by omega) (by decide) hB ?_))
            intro v1 w1 ho1 hg1 hb1 hne1
            go_wp2
            go_roundw
            case rel =>
              refine ⟨i + 1, i, out ++ [(l.drop fr).take (i - fr)], by go_num, rfl, by simpa [scells] using ho1, hb.trans (hb1.mono (Nat.le_refl _)), by omega, .inl ⟨by omega, by omega, Lib.hid ?_⟩⟩
              rw [Hr.out, ← HF2.out]; simp only [splitR]; rw [if_neg (by rw [hc]; simp), HD.out, show i + 1 - i = 1 by omega]; simp
            case measure => simp [intOf] <;> omega
    · obtain ⟨oa, oc, rfl⟩ := own_form hown
      have h2 : l.length < i := by omega
      have HE := HF
      have HOW := Lib.hid hown
      clear HF hi hown
      go_wp2
      go_ret
      refine ⟨oa, oc, ?_, ?_, hb⟩
      · rw [← HE.out]; rfl
      · rw [← HE.out]; exact HOW.out
theorem RProper_any (l : Str) (w : World) (hl : l.length ≤ 1000000) :
    Calls Try.prog 42 #[.string ⟨(l).toArray⟩] w fun e w' => e = .returned (.bool (properB l)) ∧ Below w.heap.size w w' := by
  cases l with
  | nil =>
    go_enter Try.func42, Try.ntmps42
    go_wp2
    go_ret
    exact ⟨rfl, Below.refl _ _⟩
  | cons c r =>
    obtain ⟨n, hn⟩ : ∃ n, (splitL (c :: r)).length = n := ⟨_, rfl⟩
    have hP := proper_split c r
    rw [hn] at hP
    rw [hP]
    have HN := Lib.hid hn
    have HL := Lib.hid hl
    have hnl : n ≤ 1000001 := by have := splitL_cnt (c :: r); simp only [List.length_cons] at this hl; omega
    clear hP hn hl
    cases hc : insideB c with
    | true =>
      go_enter Try.func42, Try.ntmps42
      go_wp2_with (go_at_call 21; refine (Lead_any c _ hc).mono ?_; rintro e w1 ⟨rfl, rfl⟩)
      go_ret
      exact ⟨rfl, Below.refl _ _⟩
    | false =>
      go_enter Try.func42, Try.ntmps42
      go_wp2_with (first | (go_at_call 21; refine (Lead_any c _ hc).mono ?_; rintro e w1 ⟨rfl, rfl⟩) | (go_at_call 12; refine (RSplit_any (c :: r) _ HL.out).mono ?_; rintro e w1 ⟨a, cp, rfl, _, hb1⟩; rw [HN.out]))
      go_ret
      refine ⟨ret_bool ?_, hb1⟩
      rw [Bool.eq_iff_iff]; simp; try omega
end Go.Proofs.Ytemophfieihgaaa
