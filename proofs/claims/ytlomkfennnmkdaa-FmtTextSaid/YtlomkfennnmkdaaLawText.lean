/- FmtText: a text without the four signs is read as itself; with a backslash ahead of each of them, too. For every input; no condition. -/
import Derived.Test.YtlomkfennnmkdaaApp2
import Derived.Test.YtlomkfennnmkdaaTextM
import Derived.Test.YtlomkfennnmkdaaLift
import Derived.StillTailTactics
namespace Go.Proofs.Ytlomkfennnmkdaa
open Go.RowKit
def TxRel (s : Str) (pl : Bool) (w : World) (b c q : Value) (wr : World) : Prop :=
  ∃ k : Nat, k ≤ s.length ∧ q = .int .i64 k ∧ wr.ownsRow w.heap.size 5 1 b (bOf pl (s.take k)).length (bcells (bOf pl (s.take k))) ∧ wr.ownsRow w.heap.size 5 1 c (cOf pl (s.take k)).length (bcells (cOf pl (s.take k))) ∧ apartV b c ∧ Below w.heap.size w wr
set_option maxHeartbeats 4000000 in
theorem FmtText_walk (s : Str) (pl : Bool) (w : World) (hs : s.length ≤ maxLen) :
    Calls Try.prog 3 #[.string ⟨(s).toArray⟩, .bool pl] w fun e w' => e = .returned (.bool true) ∧ Below w.heap.size w w' := by
  unfold maxLen at hs
  by_cases hs1 : s.length ≤ 100
  · obtain ⟨iu, hiu⟩ := info_parts u8_info
    go_enter Try.func3, Try.ntmps3
    go_wp2
    go_loopw [5, 6, 7] (fun b c q wr => TxRel s pl w b c q wr) (fun _ _ q _ => s.length - (intOf q).toNat)
    case atStart => exact ⟨0, by omega, rfl, World.ownsRow_nil _ _ _ _, World.ownsRow_nil _ _ _ _, .inl rfl, Below.refl _ _⟩
    case round =>
      obtain ⟨k, hk, rfl, hbo, hco, hap, hbl⟩ := hrel
      have hB := hbl.size
      have hbl1 := bOf_len pl (s.take k)
      have hcl1 := cOf_len pl (s.take k)
      simp only [List.length_take] at hbl1 hcl1
      by_cases h2 : k < s.length
      · have hbs := bOf_snoc pl s k h2
        have hcs := cOf_snoc pl s k h2
        generalize hx : s[k] = x at *
        have hx3 : ∀ h : k < s.length, s[k]'h = x := fun _ => hx
        have HBS := Lib.hid hbs; have HCS := Lib.hid hcs
        have HX := Lib.hid hx
        clear hbs hcs hx
        by_cases hsg : sgn x = true
        · have hsf : x.toNat = 36 ∨ x.toNat = 125 ∨ x.toNat = 92 ∨ x.toNat = 47 := by simpa [sgn] using hsg
          have HSG := Lib.hid hsg
          clear hsg
          cases pl with
          | true =>
            rcases hsf with h | h | h | h
            all_goals
              go_wp2_with fail
              go_roundw
              case rel =>
                refine ⟨k + 1, by omega, by go_num, ?_, ?_, hap, hbl⟩
                · rw [HBS.out]; simpa [bStep, HSG.out] using hbo
                · rw [HCS.out]; simpa [cStep, HSG.out] using hco
              case measure => simp [intOf]; omega
          | false =>
            rcases hsf with h | h | h | h
            all_goals
              go_wp2_with (at_builtin; refine wpList_app2 w.heap.size 5 rfl _ _ 23 rfl Try.underlying23 hiu rfl (by decide) rfl hbo rfl (by first | rfl | simp) rfl (by simp [Value.oneCell']) (by omega) (by decide) (by omega) ?_)
              intro v0 w0 ho0 hg0 hb0 h50
              obtain ⟨hco0, hap0⟩ := apart_app hco hbo hap.symm hg0 h50
              have hB0 := hb0.size
              go_wp2_with (at_builtin; refine wpList_app2 w.heap.size 5 rfl _ _ 23 rfl Try.underlying23 hiu rfl (by decide) rfl ho0 rfl (by first | rfl | simp) rfl (by simp [Value.oneCell']) (by omega) (by decide) (by omega) ?_)
              intro v1 w1 ho1 hg1 hb1 h51
              obtain ⟨hco1, hap1⟩ := apart_app hco0 ho0 hap0 hg1 h51
              have hB1 := hb1.size
              go_wp2_with (at_builtin; refine wpList_app2 w.heap.size 5 rfl _ _ 23 rfl Try.underlying23 hiu rfl (by decide) rfl hco1 rfl (by first | rfl | simp) rfl (by simp [Value.oneCell']) (by omega) (by decide) (by omega) ?_)
              intro v2 w2 ho2 hg2 hb2 h52
              obtain ⟨hbo2, hap2⟩ := apart_app ho1 hco1 hap1.symm hg2 h52
              go_wp2_with fail
              go_roundw
              case rel =>
                refine ⟨k + 1, by omega, by go_num, ?_, ?_, hap2, ((hbl.trans hb0).trans hb1).trans hb2⟩
                · rw [HBS.out]; simpa [bStep, HSG.out, bcells, h] using hbo2
                · rw [HCS.out]; simpa [cStep, HSG.out, bcells, h] using ho2
              case measure => simp [intOf]; omega
        · have hsf : ¬ (x.toNat = 36 ∨ x.toNat = 125 ∨ x.toNat = 92 ∨ x.toNat = 47) := by simpa [sgn] using hsg
          have e1 : ((x.toNat : Int) == 36) = false := (by rw [beq_eq_false_iff_ne]; omega)
          have e2 : ((x.toNat : Int) == 125) = false := (by rw [beq_eq_false_iff_ne]; omega)
          have e3 : ((x.toNat : Int) == 92) = false := (by rw [beq_eq_false_iff_ne]; omega)
          have e4 : ((x.toNat : Int) == 47) = false := (by rw [beq_eq_false_iff_ne]; omega)
          have HSG := Lib.hid hsg
          clear hsg hsf
          go_wp2_with (at_builtin; refine wpList_app2 w.heap.size 5 rfl _ _ 23 rfl Try.underlying23 hiu rfl (by decide) rfl hbo rfl (by first | rfl | simp) rfl (by simp [Value.oneCell']) (by omega) (by decide) (by omega) ?_)
          intro v1 w1 ho1 hg1 hb1 h51
          obtain ⟨hco1, hap1⟩ := apart_app hco hbo hap.symm hg1 h51
          have hB1 := hb1.size
          go_wp2_with (at_builtin; refine wpList_app2 w.heap.size 5 rfl _ _ 23 rfl Try.underlying23 hiu rfl (by decide) rfl hco1 rfl (by first | rfl | simp) rfl (by simp [Value.oneCell']) (by omega) (by decide) (by omega) ?_)
          intro v2 w2 ho2 hg2 hb2 h52
          obtain ⟨hbo2, hap2⟩ := apart_app ho1 hco1 hap1.symm hg2 h52
          go_wp2_with fail
          go_roundw
          case rel =>
            refine ⟨k + 1, by omega, by go_num, ?_, ?_, hap2, (hbl.trans hb1).trans hb2⟩
            · rw [HBS.out]; simpa [bStep, HSG.out, bcells] using hbo2
            · rw [HCS.out]; simpa [cStep, HSG.out, bcells] using ho2
          case measure => simp [intOf]; omega
      · have hkl : k = s.length := by omega
        subst hkl
        rw [List.take_length] at hbo hco hbl1 hcl1
        have hrd := text_read pl s []
        rw [List.nil_append] at hrd
        have hcv := conv_own (P := Try.prog) (src := 23) (dst := 9) Try.underlying23 Try.underlying5 Try.underlying9 hbo
        obtain ⟨ba, bc, rfl⟩ := own_form hbo
        obtain ⟨ca, cc, rfl⟩ := own_form hco
        generalize hbq : bOf pl s = bq at *
        generalize hcq : cOf pl s = cq at *
        by_cases hc0 : cq = []
        · subst hc0
          have hA : readX ((bq ++ [47]).drop (0 : Int).toNat) [] [] = some ([], [47]) := by simpa [flushF] using hrd
          have HA := Lib.hid hA
          simp only [List.length_nil] at hco
          clear hA hrd
          go_wp2_with (go_at_call 7; refine (Read_some (l := bq ++ [47]) (i := 0) _ (by omega) (by simp; omega) (by simp; omega) HA.out).mono ?_)
          rintro e w1 ⟨hb1, a, c, j, rfl, hsl, hj0, hj1, hj2, hfl, hlo⟩
          have hj : j = bq.length := by
            have h1 := congrArg List.length hj2
            simp at h1 hj1; omega
          subst hj
          clear hj2 hsl
          go_wp2_with (go_at_call 6; refine (awake_any _).mono ?_; rintro e w4 ⟨rfl, hb4⟩)
          go_ret
          have hz := hb1.size
          exact ⟨rfl, (hbl.trans (hb1.mono hB)).trans (hb4.mono (by omega))⟩
        · have hA : readX ((bq ++ [47]).drop (0 : Int).toNat) [] [] = some ([⟨0, 0, 0, cq, []⟩], [47]) := by simpa [flushF, hc0] using hrd
          have HA := Lib.hid hA
          have hc1 : 0 < cq.length := List.length_pos_iff.2 hc0
          clear hA hrd hc0
          go_wp2_with (go_at_call 7; refine (Read_some (l := bq ++ [47]) (i := 0) _ (by omega) (by simp; omega) (by simp; omega) HA.out).mono ?_)
          rintro e w1 ⟨hb1, a, c, j, rfl, hsl, hj0, hj1, hj2, hfl, hlo⟩
          have hj : j = bq.length := by
            have h1 := congrArg List.length hj2
            simp at h1 hj1; omega
          subst hj
          obtain ⟨b, o, rfl, hbB, c0, c1, c2, c3, c4⟩ := hsl.fm (k := 0) rfl
          simp only [Nat.zero_mul, Nat.add_zero] at c0 c1 c2 c3 c4
          have hco1 := own_keep hco hb1
          have hcv2 := conv_own (P := Try.prog) (src := 23) (dst := 9) Try.underlying23 Try.underlying5 Try.underlying9 (w := w1.drew) (B := w.heap.size) (l := cq) hco1
          have q0 : ∀ w, (binOp .eql 28 (.agg #[.int .i64 0, .int .i64 0, .int .i64 0, .string ⟨(cq).toArray⟩, .string ⟨([]).toArray⟩]) (.agg #[.int .i64 0, .int .i64 0, .int .i64 0, .string ⟨(cq).toArray⟩, .string ⟨([]).toArray⟩])).run Try.prog w = .ok (.bool true) w := fun w => (fm_eq ⟨0, 0, 0, cq, []⟩ ⟨0, 0, 0, cq, []⟩ w).trans (by rw [decide_eq_true rfl])
          clear hj2 hsl hcv
          go_wp2
          go_still_tail 13, (by kernel_rfl)
          change wpList _ _ _ _ _ w1.drew
          go_wp2_with (go_at_call 6; refine (awake_any _).mono ?_; rintro e w4 ⟨rfl, hb4⟩)
          go_ret
          have hz := hb1.size
          exact ⟨rfl, (hbl.trans (hb1.mono hB)).trans (((Below.refl _ _).drew).trans (hb4.mono (by show _ ≤ w1.heap.size; omega)))⟩
  · go_enter Try.func3, Try.ntmps3
    go_wp2_with (go_at_call 6; refine (awake_any _).mono ?_; rintro e w4 ⟨rfl, hb4⟩)
    all_goals first
      | (go_ret; exact ⟨rfl, hb4⟩)
      | (exfalso; omega)
end Go.Proofs.Ytlomkfennnmkdaa
