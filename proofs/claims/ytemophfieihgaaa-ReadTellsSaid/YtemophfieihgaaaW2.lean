/- walk of char.Split · walk of char.Word -/
import Derived.Test.YtemophfieihgaaaV2
import Derived.Test.YtemophfieihgaaaC2
set_option maxRecDepth 100000
namespace Go.Proofs.Ytemophfieihgaaa
open Go.RowKit
def splitF : Nat → Str → List Str
  | 0, _ => []
  | _, [] => []
  | k + 1, c :: r => (c :: r.takeWhile insideB) :: splitF k (r.dropWhile insideB)
def splitM (l : Str) : List Str := splitF l.length l
theorem str_infoW : (Try.prog.info? 9).map (fun i => (i.zero, i.size, i.bytes)) = some (some (.string ⟨#[]⟩), 1, 16) := by kernel_rfl
theorem scells_snoc (ps : List Str) (p : Str) : scells (ps ++ [p]) = scells ps ++ [.string ⟨(p).toArray⟩] := by simp [scells]
theorem scells_len (ps : List Str) : (scells ps).length = ps.length := by simp [scells]
theorem span_take (l : Str) (i : Nat) (c : UInt8) (r : Str) (h : l.drop i = c :: r) : spanE l i ≤ l.length ∧ i < spanE l i ∧ (l.take (spanE l i)).drop i = c :: r.takeWhile insideB ∧ l.drop (spanE l i) = r.dropWhile insideB := by
  have hl : i < l.length := by
    rcases Nat.lt_or_ge i l.length with h1 | h1
    · exact h1
    · rw [List.drop_of_length_le h1] at h; cases h
  have h2 : l.drop (i + 1) = r := by rw [← List.drop_drop, h]; rfl
  have hsp : spanE l i = i + 1 + (r.takeWhile insideB).length := by unfold spanE; rw [h2]
  have hr : r.takeWhile insideB ++ r.dropWhile insideB = r := List.takeWhile_append_dropWhile
  have hle := congrArg List.length h2
  rw [List.length_drop] at hle
  have hle2 := congrArg List.length hr
  rw [List.length_append] at hle2
  refine ⟨by omega, by omega, ?_, ?_⟩
  · rw [hsp, List.drop_take, h, show i + 1 + (r.takeWhile insideB).length - i = (r.takeWhile insideB).length + 1 by omega, List.take_succ_cons]
    congr 1
    conv => lhs; rw [← hr]
    rw [List.take_append_of_le_length (by simp), List.take_of_length_le (by simp)]
  · rw [hsp, ← List.drop_drop, h2]
    conv => lhs; rw [← hr]
    rw [List.drop_append_of_le_length (by simp), List.drop_of_length_le (by simp), List.nil_append]
def SpRel (l : Str) (R : List Str) (w : World) (v q : Value) (wr : World) : Prop :=
  ∃ (i k : Nat) (ps : List Str), i ≤ l.length ∧ l.length - i ≤ k ∧ q = .int .i64 i ∧ Below w.heap.size w wr ∧ wr.ownsRow w.heap.size 9 1 v ps.length (scells ps) ∧ ps.length ≤ i ∧ Hid (ps ++ splitF k (l.drop i) = R)
set_option maxHeartbeats 1000000 in
theorem Split_any (l : Str) (w : World) (hs : l.length ≤ 1000000) :
    Calls Try.prog 8 #[.string ⟨(l).toArray⟩] w fun e w' => ∃ a c, e = .returned (.slice a (splitM l).length c) ∧ SlS w' (fun b => w.heap.size ≤ b) a 1 (splitM l).length (scells (splitM l)) ∧ Below w.heap.size w w' := by
  obtain ⟨R, hR⟩ : ∃ R, splitM l = R := ⟨_, rfl⟩
  rw [hR]
  have HR := Lib.hid hR
  obtain ⟨ir, hir⟩ := info_parts str_infoW
  clear hR
  go_enter Try.func8, Try.ntmps8
  go_wp2
  go_loopw [3, 4] (fun v q wr => SpRel l R w v q wr) (fun _ q _ => l.length - (intOf q).toNat)
  case atStart => exact ⟨0, l.length, [], by omega, by omega, rfl, Below.refl _ _, World.ownsRow_nil _ _ _ _, by simp, HR⟩
  case round =>
    obtain ⟨i, k, ps, hi, hk, rfl, hb, hown, hps, HF⟩ := hrel
    have hB := hb.size
    clear HR
    cases hd : l.drop i with
    | nil =>
      have h2 := drop_nil hd
      have HE : Hid (ps = R) := Lib.hid (by rw [← HF.out, hd]; cases k <;> simp [splitF])
      obtain ⟨va, vc, rfl⟩ := own_form hown
      have HOWN := Lib.hid hown
      clear hd HF hown
      go_wp2
      go_ret
      exact ⟨va, vc, by rw [HE.out]; rfl, by rw [← HE.out]; exact own_slS HOWN.out, hb⟩
    | cons c r =>
      obtain ⟨h1, h2, h3, h4⟩ := span_take l i c r hd
      obtain ⟨k, rfl⟩ : ∃ k', k = k' + 1 := ⟨k - 1, by have := congrArg List.length hd; simp at this; omega⟩
      have hil : i < l.length := by have := congrArg List.length hd; simp at this; omega
      have HE : Hid ((ps ++ [c :: r.takeWhile insideB]) ++ splitF k (l.drop (spanE l i)) = R) := Lib.hid (by rw [← HF.out, hd, h4]; simp [splitF])
      generalize hp : c :: r.takeWhile insideB = p at *
      obtain ⟨e, he⟩ : ∃ e, spanE l i = e := ⟨_, rfl⟩
      rw [he] at h1 h2 h3 h4 HE
      rw [List.drop_take] at h3
      have HEN := Lib.hid (he ▸ end_any l i wr (by omega) (by omega) : Calls Try.prog 16 #[.string ⟨(l).toArray⟩, .int .i64 i] wr fun x w' => x = .returned (.int .i64 (e : Int)) ∧ wr = w')
      have hb1 : Below wr.heap.size wr (wr.alloc (.cells #[.string ⟨(p).toArray⟩] 9)) := (Below.refl _ _).alloc (Nat.le_refl _) _
      have HO1 := Lib.hid (own_below hown hb1)
      have HSL := Lib.hid (Sl.lit (n := 1) (sz := 1) (heap_alloc_new wr (.cells #[.string ⟨(p).toArray⟩] 9)) rfl)
      have hz1 : w.heap.size ≤ (wr.alloc (.cells #[.string ⟨(p).toArray⟩] 9)).heap.size := by rw [World.size_alloc]; omega
      have hbw1 := hb.alloc hB (.cells #[.string ⟨(p).toArray⟩] 9)
      clear hd hp h4 he HF hown
      go_wp2_with (first | (go_at_call 16; refine HEN.out.mono ?_; rintro x w1 ⟨rfl, rfl⟩) | (at_builtin; refine wpList_appM w.heap.size 9 rfl _ _ 33 rfl Try.underlying33 hir rfl (by decide) rfl HO1.out rfl HSL.out (by simp [Value.oneCell']) (by omega) (by omega) (by decide) hz1 ?_))
      intro v1 w4 ho4 hg4 hb4 hmv
      have hb4' := hbw1.trans hb4
      have ho5 : w4.ownsRow w.heap.size 9 1 v1 (ps ++ [p]).length (scells (ps ++ [p])) := by
        rw [scells_snoc, List.length_append]; exact ho4
      clear ho4 hg4 hmv
      go_wp2
      go_roundw
      case rel => exact ⟨e, k, ps ++ [p], h1, by omega, rfl, hb4', ho5, by simp; omega, HE⟩
      case measure => simp [intOf]; omega
end Go.Proofs.Ytemophfieihgaaa
namespace Go.Proofs.Ytemophfieihgaaa
open Go.RowKit
def wordB : Str → Bool
  | [b] => decide (97 ≤ b.toNat ∧ b.toNat ≤ 122) || decide (65 ≤ b.toNat ∧ b.toNat ≤ 90) || decide (48 ≤ b.toNat ∧ b.toNat ≤ 57) || decide (b.toNat = 95)
  | _ => false
set_option maxHeartbeats 400000 in
theorem Word_any (c : Str) (w : World) (hs : c.length ≤ 100000000) : Calls Try.prog 61 #[.string ⟨(c).toArray⟩] w fun e w' => e = .returned (.bool (wordB c)) ∧ w = w' := by
  match c, hs with
  | [], _ =>
    go_enter Try.func61, Try.ntmps61
    go_wp2
    go_ret
    exact ⟨rfl, rfl⟩
  | b :: d :: r, hs =>
    go_enter Try.func61, Try.ntmps61
    go_wp2
    go_ret
    exact ⟨rfl, rfl⟩
  | [b], _ =>
    go_enter Try.func61, Try.ntmps61
    go_wp2
    all_goals (go_ret; refine ⟨ret_bool ?_, rfl⟩; simp only [wordB]; rw [Bool.eq_iff_iff]; simp only [Bool.or_eq_true, decide_eq_true_eq, beq_iff_eq]; first | omega | (simp; omega) | skip)
end Go.Proofs.Ytemophfieihgaaa
