/- walk of the references: gimletref18.Guard -/
import Derived.Test.YtlomkfennnmkdaaDoorU2
import Derived.Test.YtlomkfennnmkdaaDoorShowM
namespace Go.Proofs.YtlomkfennnmkdaaDoor
open Go.RowKit
def rep (th : Str) (c : UInt8) : Str := th.flatMap fun x => if x = c then [92] else []
def quotD (th l : Str) : Str := l.flatMap fun c => rep th c ++ [c]
theorem rep_eq (c : UInt8) : ∀ {th : Str}, th.Nodup → rep th c = if th.contains c = true then [92] else []
  | [], _ => by simp [rep]
  | x :: r, h => by
    rw [List.nodup_cons] at h
    have ih := rep_eq c h.2
    have he : rep (x :: r) c = (if x = c then [92] else []) ++ rep r c := by simp [rep]
    rw [he, ih, List.contains_cons]
    by_cases hx : x = c
    · subst hx
      have : r.contains x = false := by simpa using h.1
      rw [if_pos rfl, this]; simp
    · rw [if_neg hx]
      have : (c == x) = false := by simpa using fun e => hx e.symm
      rw [this]; simp
theorem quotD_eq {th : Str} (h : th.Nodup) : ∀ l : Str, quotD th l = quot th l
  | [] => by simp [quotD, quot]
  | c :: r => by
    have ih := quotD_eq h r
    have he : quotD th (c :: r) = rep th c ++ [c] ++ quotD th r := by simp [quotD]
    rw [he, ih, rep_eq c h]
    simp only [quot]
    split <;> simp
theorem rep_len (c : UInt8) : ∀ th : Str, (rep th c).length ≤ th.length
  | [] => by simp [rep]
  | x :: r => by
    have ih := rep_len c r
    have he : rep (x :: r) c = (if x = c then [92] else []) ++ rep r c := by simp [rep]
    rw [he, List.length_append]
    split <;> simp <;> omega
theorem quotD_len (th : Str) : ∀ l : Str, (quotD th l).length ≤ l.length * (th.length + 1)
  | [] => by simp [quotD]
  | c :: r => by
    have ih := quotD_len th r
    have hr := rep_len c th
    have he : quotD th (c :: r) = rep th c ++ [c] ++ quotD th r := by simp [quotD]
    rw [he, List.length_append, List.length_append, List.length_cons, List.length_cons, Nat.succ_mul]
    simp; omega
theorem u8_info2 : (Tryd.prog.info? 5).map (fun i => (i.zero, i.size, i.bytes)) = some (some (.int .u8 0), 1, 1) := by kernel_rfl
theorem ownsRow_drewN {w : World} {B : Nat} {e : TypeId} {sz : Nat} {v : Value} {n : Nat} {xs : List Value} (h : w.ownsRow B e sz v n xs) (k : Nat) : (w.drewN k).ownsRow B e sz v n xs := h
def GdRel (th l R : Str) (w : World) (v q : Value) (wr : World) : Prop :=
  ∃ (i : Nat) (bs : Str), i ≤ l.length ∧ q = .int .i64 i ∧ wr.ownsRow w.heap.size 5 1 v bs.length (bcells bs) ∧ Below w.heap.size w wr ∧ bs.length ≤ 20000000 ∧ Hid (bs ++ quotD th (l.drop i) = R)
def GiRel (th : Str) (c : UInt8) (s R : Str) (w : World) (v q : Value) (wr : World) : Prop :=
  ∃ (k : Nat) (bs : Str), k ≤ th.length ∧ q = .int .i64 k ∧ wr.ownsRow w.heap.size 5 1 v bs.length (bcells bs) ∧ Below w.heap.size w wr ∧ bs.length ≤ 20000000 ∧ Hid (bs ++ (rep (th.drop k) c ++ (c :: s)) = R)
set_option maxHeartbeats 4000000 in
theorem Guard_any (l th : Str) (w : World) (hs : l.length ≤ 1000000) (ht : th.length ≤ 9) (hnd : th.Nodup) :
    Calls Tryd.prog 24 #[.string ⟨(l).toArray⟩, .string ⟨(th).toArray⟩] w fun e w' => e = .returned (.string ⟨(quot th l).toArray⟩) ∧ Below w.heap.size w w' := by
  rw [← quotD_eq hnd]
  have hlen := quotD_len th l
  have h10 : l.length * (th.length + 1) ≤ 1000000 * 10 := Nat.mul_le_mul hs (by omega)
  obtain ⟨R, hR⟩ : ∃ R, quotD th l = R := ⟨_, rfl⟩
  rw [hR] at hlen ⊢
  have HR0 : Hid (([] : Str) ++ quotD th (l.drop 0) = R) := Lib.hid (by simpa using hR)
  obtain ⟨iu, hiu⟩ := info_parts u8_info2
  have hRl : R.length ≤ 10000000 := by omega
  clear hR hnd hlen h10
  go_enter Tryd.func24, Tryd.ntmps24
  go_wp2
  go_loopw [5, 6] (fun v q wr => GdRel th l R w v q wr) (fun _ q _ => l.length - (intOf q).toNat)
  case atStart => exact ⟨0, [], by omega, rfl, World.ownsRow_nil _ _ _ _, Below.refl _ _, by simp, HR0⟩
  case round =>
    obtain ⟨i, bs, hik, rfl, hown, hb, hbl, HF⟩ := hrel
    clear HR0
    have hB := hb.size
    cases hd : l.drop i with
    | nil =>
      have h2 := drop_nil hd
      have HE : Hid (bs = R) := Lib.hid (by rw [← HF.out, hd]; simp [quotD])
      obtain ⟨a, c, rfl⟩ := own_form hown
      have hcv := conv_own (P := Tryd.prog) Tryd.underlying43 Tryd.underlying5 Tryd.underlying9 hown
      clear hd HF
      go_wp2
      go_ret
      exact ⟨ret_str HE.out, hb⟩
    | cons c r =>
      obtain ⟨h2, h3, hr⟩ := drop_cons hd
      have Hr := Lib.hid hr
      have hc256 := u8_lt c
      obtain ⟨T, hT⟩ : ∃ T, quotD th r = T := ⟨_, rfl⟩
      have HK0 : Hid (bs ++ (rep (th.drop 0) c ++ (c :: T)) = R) := Lib.hid (by rw [← HF.out, hd, ← hT]; simp [quotD])
      have HT := Lib.hid hT
      clear hd HF hr hT
      obtain ⟨wo, rfl⟩ : ∃ wo : World, wo = wr := ⟨_, rfl⟩
      go_wp2
      go_loopw [5, 7] (fun v q wk => GiRel th c T R w v q wk) (fun _ q _ => th.length - (intOf q).toNat)
      case atStart => exact ⟨0, bs, by omega, rfl, hown, hb, hbl, HK0⟩
      case round =>
        obtain ⟨k, bk, hkk, rfl, hownk, hbk, hblk, HG⟩ := hrel
        clear HK0 hown
        have hBk := hbk.size
        have hbkl : bk.length + T.length + 1 ≤ 10000000 := by
          have h := congrArg List.length HG.out
          simp only [List.length_append, List.length_cons] at h; omega
        obtain ⟨a, cp, rfl⟩ := own_form hownk
        cases hdk : th.drop k with
        | nil =>
          have h4 := drop_nil hdk
          have HE : Hid (bk ++ (c :: T) = R) := Lib.hid (by rw [← HG.out, hdk]; simp [rep])
          clear hdk HG
          go_wp2_with (at_builtin; refine wpList_app1 w.heap.size 5 rfl _ _ 43 rfl Tryd.underlying43 hiu rfl (by decide) rfl hownk rfl (by first | rfl | simp) rfl (by simp [Value.oneCell']) (by omega) (by decide) hBk ?_)
          intro v1 w1 ho1 hg1 hb1 hne1
          go_wp2
          exact ⟨⟨i + 1, bk ++ [c], by omega, by go_num, by simpa [bcells] using ho1, hbk.trans (hb1.mono (Nat.le_refl _)), by simp; omega, Lib.hid (by rw [Hr.out, HT.out, ← HE.out]; simp)⟩, by simp [intOf]; omega⟩
        | cons x s =>
          obtain ⟨h4, h5, hs⟩ := drop_cons hdk
          have Hs := Lib.hid hs
          have hx256 := u8_lt x
          have HG2 : Hid (bk ++ ((if x = c then [92] else []) ++ (rep s c ++ (c :: T))) = R) := Lib.hid (by rw [← HG.out, hdk]; simp [rep])
          clear hdk HG hs
          by_cases hxc : x = c
          · have HE : Hid (bk ++ ([92] ++ (rep s c ++ (c :: T))) = R) := Lib.hid (by rw [← HG2.out, if_pos hxc])
            subst hxc
            clear HG2
            go_wp2
            go_quiet (fail)
            go_wp2_with (at_builtin; refine wpList_app1 w.heap.size 5 rfl _ _ 43 rfl Tryd.underlying43 hiu rfl (by decide) rfl (ownsRow_drewN hownk _) rfl (by first | rfl | simp) rfl (by simp [Value.oneCell']) (by omega) (by decide) (below_drewN hbk _).size ?_)
            intro v1 w1 ho1 hg1 hb1 hne1
            go_wp2
            go_roundw
            case rel => exact ⟨k + 1, bk ++ [92], by omega, by go_num, by simpa [bcells] using ho1, (below_drewN hbk _).trans (hb1.mono (Nat.le_refl _)), by simp; omega, Lib.hid (by rw [Hs.out, ← HE.out]; simp)⟩
            case measure => simp [intOf]; omega
          · have hne : ((x.toNat : Int) == c.toNat) = false := by
              rw [beq_eq_false_iff_ne]; intro e; exact hxc (UInt8.toNat_inj.1 (by omega))
            have HE : Hid (bk ++ (rep s c ++ (c :: T)) = R) := Lib.hid (by rw [← HG2.out, if_neg hxc]; simp)
            clear HG2 hxc
            go_wp2
            go_quiet (fail)
            go_wp2
            go_roundw
            case rel => exact ⟨k + 1, bk, by omega, by go_num, ownsRow_drewN hownk _, below_drewN hbk _, hblk, Lib.hid (by rw [Hs.out]; exact HE.out)⟩
            case measure => simp [intOf]; omega
end Go.Proofs.YtlomkfennnmkdaaDoor
