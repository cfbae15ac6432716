/- FmtJoins: two formats that may be, the one behind the other, make of parts what each makes; one of conditions makes its one side or its other. For every input; no condition. -/
import Derived.Test.YtlomkfennnmkdaaT14
import Derived.Test.YtlomkfennnmkdaaJoinM
import Derived.Test.YtlomkfennnmkdaaAppS
import Derived.Test.YtlomkfennnmkdaaLift
namespace Go.Proofs.Ytlomkfennnmkdaa
open Go.RowKit
theorem fcells_one (fs : List Fm) : ∀ u ∈ fcells fs, u.oneCell' = true := by
  intro u hu
  simp only [fcells, List.mem_flatMap] at hu
  obtain ⟨f, _, hf⟩ := hu
  simp only [Fm.cells, List.mem_cons, List.not_mem_nil, or_false] at hf
  rcases hf with rfl | rfl | rfl | rfl | rfl <;> rfl
theorem Sl.fm1 (w : World) (f : Fm) (t : TypeId) (m : Nat × Nat) : Sl (w.alloc (.cells #[.int .i64 f.kind, .int .i64 f.n, .int .i64 f.cse, .string ⟨(f.thn).toArray⟩, .string ⟨(f.els).toArray⟩] t m)) (w.alloc (.cells #[.int .i64 f.kind, .int .i64 f.n, .int .i64 f.cse, .string ⟨(f.thn).toArray⟩, .string ⟨(f.els).toArray⟩] t m)).heap.size (some ⟨w.heap.size, 0, none⟩) 5 1 (fcells [f]) :=
  Sl.lit (n := 1) (heap_alloc_new w _) rfl
theorem Sl.alloc_self {w : World} {a : Option Addr} {sz n : Nat} {cs : List Value} (h : Sl w w.heap.size a sz n cs) (o : Obj) : Sl (w.alloc o) (w.alloc o).heap.size a sz n cs :=
  (h.keep ((Below.refl _ _).alloc (Nat.le_refl _) o)).mono (by simp)
theorem Apply_n {a a' : Option Addr} {n c n' c' m : Nat} {fs : List Fm} {ps : List Str} {R : Str} (w : World) (hR : applyF fs ps = R) (h : Sl w w.heap.size a 5 n (fcells fs)) (h' : Sl w w.heap.size a' 1 n' (scells ps))
    (hf : ∀ f ∈ fs, f.thn.length ≤ m ∧ f.els.length ≤ m) (hp : ∀ p ∈ ps, p.length ≤ m) (hm : m ≤ 10000) (hn : n ≤ 1000) (hn' : n' ≤ 1000000) :
    Calls Try.prog 12 #[.slice a n c, .slice a' n' c'] w fun e w' => e = .returned (.string ⟨(R).toArray⟩) ∧ Below w.heap.size w w' := by
  obtain rfl := h.fs_len
  subst hR
  exact Apply_any a a' c n' c' m fs ps w h h' hf hp hm hn hn'
theorem apply_len {fs : List Fm} {ps : List Str} {m : Nat} (hf : ∀ f ∈ fs, f.thn.length ≤ m ∧ f.els.length ≤ m) (hp : ∀ p ∈ ps, p.length ≤ m) : (applyF fs ps).length ≤ fs.length * m := by
  have key : ∀ gs : List Fm, (∀ f ∈ gs, f.thn.length ≤ m ∧ f.els.length ≤ m) → (gs.flatMap (piece ps)).length ≤ gs.length * m := by
    intro gs
    induction gs with
    | nil => intro _; simp
    | cons g gs ih =>
      intro h
      have h1 := ih (fun f hf => h f (List.mem_cons_of_mem _ hf))
      obtain ⟨h2, h3⟩ := h g (List.mem_cons_self ..)
      have h4 := piece_len hp h2 h3
      rw [List.flatMap_cons, List.length_append, List.length_cons, Nat.succ_mul]; omega
  unfold applyF
  split
  · exact key fs hf
  · simp
set_option maxHeartbeats 1000000 in
theorem FmtJoins_walk (aa ab ap : Option Addr) (na ca nb cb np cp : Nat) (xs ys : List Fm) (ps : List Str) (n : Int) (t e : Str) (w : World)
    (ha : Sl w w.heap.size aa 5 na (fcells xs)) (hb : Sl w w.heap.size ab 5 nb (fcells ys)) (hp : Sl w w.heap.size ap 1 np (scells ps))
    (hna : na ≤ maxLen) (hnb : nb ≤ maxLen) (hnp : np ≤ maxLen) (ht : t.length ≤ maxLen) (he : e.length ≤ maxLen)
    (za : ∀ f ∈ xs, f.thn.length ≤ maxLen ∧ f.els.length ≤ maxLen) (zb : ∀ f ∈ ys, f.thn.length ≤ maxLen ∧ f.els.length ≤ maxLen) (zp : ∀ p ∈ ps, p.length ≤ maxLen) :
    Calls Try.prog 4 #[.slice aa na ca, .slice ab nb cb, .slice ap np cp, .int .i64 n, .string ⟨(t).toArray⟩, .string ⟨(e).toArray⟩] w fun e w' => e = .returned (.bool true) ∧ Below w.heap.size w w' := by
  obtain rfl := ha.fs_len
  obtain rfl := hb.fs_len
  obtain rfl := hp.str_len
  have HA := Lib.hid ha; have HB := Lib.hid hb; have HP := Lib.hid hp
  have ZA := Lib.hid za; have ZB := Lib.hid zb; have ZP := Lib.hid zp
  have Na := Lib.hid hna; have Nb := Lib.hid hnb; have Np := Lib.hid hnp
  unfold maxLen at hna hnb hnp ht he
  clear ha hb hp za zb zp
  go_enter Try.func4, Try.ntmps4
  go_wp2_with (go_at_call 8; refine (FmtsLeft_any _ _ _ _ xs _ HA.out Na.out (by omega) ZA.out).mono ?_)
  rintro e w1 ⟨rfl, hb1⟩
  by_cases hxa : leftF xs 100 < 0
  · go_wp2_with (go_at_call 6; refine (awake_any _).mono ?_; rintro e w4 ⟨rfl, hb4⟩)
    go_ret
    exact ⟨rfl, hb1.trans (hb4.mono hb1.size)⟩
  have hz1 := hb1.size
  have HA1 := Lib.hid (HA.out.keep hb1); have HB1 := Lib.hid ((HB.out.keep hb1).mono hz1); have HP1 := Lib.hid ((HP.out.keep hb1).mono hz1)
  go_wp2_with (go_at_call 8; refine (FmtsLeft_any _ _ _ _ ys _ HB1.out Nb.out (by omega) ZB.out).mono ?_)
  rintro e w2 ⟨rfl, hb2⟩
  have hb12 := hb1.trans (hb2.mono hz1)
  have hz2 := hb2.size
  by_cases hxb : leftF ys 100 < 0
  · go_wp2_with (go_at_call 6; refine (awake_any _).mono ?_; rintro e w4 ⟨rfl, hb4⟩)
    go_ret
    exact ⟨rfl, hb12.trans (hb4.mono hb12.size)⟩
  by_cases hl1 : 10 < xs.length ∨ 10 < ys.length ∨ 10 < ps.length
  · go_wp2_with (go_at_call 6; refine (awake_any _).mono ?_; rintro e w4 ⟨rfl, hb4⟩)
    all_goals first
      | (go_ret; exact ⟨rfl, hb12.trans (hb4.mono hb12.size)⟩)
      | (exfalso; omega)
  have hl2 : xs.length ≤ 10 := by omega
  have hl3 : ys.length ≤ 10 := by omega
  have hl4 : ps.length ≤ 10 := by omega
  clear hl1
  have HP2 := Lib.hid ((HP1.out.keep hb2).mono hz2)
  go_wp2_with (go_at_call 9; refine (Long_any _ _ _ _ ps _ HP2.out Np.out (by omega) ZP.out).mono ?_)
  rintro e w3 ⟨rfl, hb3⟩
  have hb13 := hb12.trans (hb3.mono hb12.size)
  cases hlg : longL ps 100 with
  | true =>
    go_wp2_with (go_at_call 6; refine (awake_any _).mono ?_; rintro e w4 ⟨rfl, hb4⟩)
    go_ret
    exact ⟨rfl, hb13.trans (hb4.mono hb13.size)⟩
  | false =>
    by_cases hl5 : 40 < t.length ∨ 40 < e.length
    · go_wp2_with (go_at_call 6; refine (awake_any _).mono ?_; rintro e w4 ⟨rfl, hb4⟩)
      all_goals first
        | (go_ret; exact ⟨rfl, hb13.trans (hb4.mono hb13.size)⟩)
        | (exfalso; omega)
    have hl6 : t.length ≤ 40 := by omega
    have hl7 : e.length ≤ 40 := by omega
    clear hl5
    have BA := leftF_bound xs 100 (by omega) (by omega)
    have BB := leftF_bound ys 100 (by omega) (by omega)
    have BP := longL_bound ps 100 (by omega) hlg
    obtain ⟨hk0, hk1⟩ := low_lt n (n := 12) (by omega)
    obtain ⟨k, hkk⟩ := Int.eq_ofNat_of_zero_le hk0
    rw [hkk] at hk0 hk1
    have HKK := Lib.hid hkk
    clear hkk hlg
    have HBA := Lib.hid BA; have HBB := Lib.hid BB; have HBP := Lib.hid BP
    clear BA BB BP
    have hz3 := hb3.size
    trace "a3"
    have HA3 := Lib.hid (((HA1.out.keep (hb2.mono hz1)).keep (hb3.mono (by omega))))
    have HB3 := Lib.hid (((HB.out.keep hb13)))
    obtain ⟨im, him⟩ := info_parts fm_info
    go_wp2_with (go_at_call 10; refine (Low_any n 12 _ (by omega) (by omega)).mono ?_)
    rintro e w4 ⟨rfl, rfl⟩
    rw [HKK.out]
    trace "low"
    go_wp2_with ((at_builtin; refine wpList_appS w.heap.size 28 rfl _ _ 24 rfl Try.underlying24 him rfl (by decide) (v := .slice (some ⟨w3.heap.size, 0, none⟩) 0 0) (n := 0) (xs := []) rfl (World.ownsRow_made w3 #[] 0 (by omega) (by simp [maxLen]) rfl) rfl ((HA.out.keep (hb13.alloc (by omega) _))) (fcells_one xs) (by omega) (by omega) (by decide) (by simp; omega) ?_))
    trace "app1"
    intro v1 w5 ho1 hg1 hb5
    have hbw5 := (hb13.alloc (by omega) (.cells #[] 28)).trans hb5
    have hz5 := hbw5.size
    go_wp2_with (at_builtin; refine wpList_appS w.heap.size 28 rfl _ _ 24 rfl Try.underlying24 him rfl (by decide) rfl ho1 rfl (HB.out.keep hbw5) (fcells_one ys) (by omega) (by omega) (by decide) (by omega) ?_)
    trace "app2"
    intro v2 w6 ho2 hg2 hb6
    have hbw6 := hbw5.trans hb6
    have hz6 := hbw6.size
    obtain ⟨ja, jc, rfl⟩ := own_form ho2
    have HXY : Hid (Sl w6 w6.heap.size ja 5 (xs.length + ys.length) (fcells (xs ++ ys))) := Lib.hid (by have h := Sl.of_own ho2; simpa [fcells] using h)
    clear ho2 ho1 hg1 hg2
    cases hmay : mayFs (xs ++ ys) with
    | false =>
      go_wp2_with (go_at_call 11; refine (May_any _ _ _ (xs ++ ys) _ HXY.out (by omega)).mono ?_)
      rintro e w7 ⟨rfl, hb7⟩
      rw [hmay]
      have hbw7 := hbw6.trans (hb7.mono hz6)
      trace "may"
      by_cases hkl : k < ps.length
      · obtain ⟨p, hp⟩ : ∃ p, ps[k]? = some p := ⟨_, List.getElem?_eq_getElem hkl⟩
        have HPO0 : partOf ps (k : Int) = p := (by simp [partOf, List.getD_eq_getElem?_getD, hp])
        obtain ⟨b', o', hap, hbb, p0⟩ := (HP.out.keep hbw7).str hp
        subst hap
        clear hp
        rcases p with _ | ⟨c, p⟩
        · have HPO := Lib.hid HPO0
          clear HPO0
          have hz0 := hbw7.size
          have HX : Hid (applyF [⟨5, (k : Int), 0, t, e⟩] ps = e) := Lib.hid (by rw [apply_both _ _ _ _ (by omega) (by omega), HPO.out]; simp)
          have HY : Hid (applyF [⟨3, (k : Int), 0, t, []⟩] ps = []) := Lib.hid (by rw [apply_if _ _ _ (by omega) (by omega), HPO.out]; simp)
          have HZ : Hid (applyF [⟨4, (k : Int), 0, [], e⟩] ps = e) := Lib.hid (by rw [apply_else _ _ _ (by omega) (by omega), HPO.out]; simp)
          have HS1 := Lib.hid ((HP.out.keep hbw7).mono hz0)
          go_wp2_with (go_at_call 12; refine (Apply_n (fs := [⟨5, (k : Int), 0, t, e⟩]) (ps := ps) (R := e) _ HX.out (Sl.fm1 w7 ⟨5, (k : Int), 0, t, e⟩ _ _) (HS1.out.alloc_self _) (by simp; omega) HBP.out (by decide) (by decide) (by omega)).mono ?_)
          first | rintro e1 u1 rfl hd1 | rintro e1 u1 ⟨rfl, hd1⟩
          have hq1 : Below w7.heap.size w7 u1 := ((Below.refl _ _).alloc (Nat.le_refl _) _).trans (hd1.mono (by simp))
          have hB1 := hbw7.trans (hq1.mono hz0)
          have hz1' := hB1.size
          have HS2 := Lib.hid ((HP.out.keep hB1).mono hz1')
          clear hd1
          go_wp2_with (go_at_call 12; refine (Apply_n (fs := [⟨3, (k : Int), 0, t, []⟩]) (ps := ps) (R := []) _ HY.out (Sl.fm1 u1 ⟨3, (k : Int), 0, t, []⟩ _ _) (HS2.out.alloc_self _) (by simp; omega) HBP.out (by decide) (by decide) (by omega)).mono ?_)
          first | rintro e1 u2 rfl hd2 | rintro e1 u2 ⟨rfl, hd2⟩
          have hq2 : Below u1.heap.size u1 u2 := ((Below.refl _ _).alloc (Nat.le_refl _) _).trans (hd2.mono (by simp))
          have hB2 := hB1.trans (hq2.mono hz1')
          have hz2' := hB2.size
          have HS3 := Lib.hid ((HP.out.keep hB2).mono hz2')
          clear hd2
          go_wp2_with (go_at_call 12; refine (Apply_n (fs := [⟨4, (k : Int), 0, [], e⟩]) (ps := ps) (R := e) _ HZ.out (Sl.fm1 u2 ⟨4, (k : Int), 0, [], e⟩ _ _) (HS3.out.alloc_self _) (by simp; omega) HBP.out (by decide) (by decide) (by omega)).mono ?_)
          first | rintro e1 u3 rfl hd3 | rintro e1 u3 ⟨rfl, hd3⟩
          have hq3 : Below u2.heap.size u2 u3 := ((Below.refl _ _).alloc (Nat.le_refl _) _).trans (hd3.mono (by simp))
          have hB3 := hB2.trans (hq3.mono hz2')
          clear hd3
          go_wp2_with (go_at_call 6; refine (awake_any _).mono ?_; rintro e w4 ⟨rfl, hb4⟩)
          go_ret
          exact ⟨rfl, hB3.trans (hb4.mono hB3.size)⟩
        · have HPO := Lib.hid HPO0
          clear HPO0
          have hz0 := hbw7.size
          have HX : Hid (applyF [⟨5, (k : Int), 0, t, e⟩] ps = t) := Lib.hid (by rw [apply_both _ _ _ _ (by omega) (by omega), HPO.out]; simp)
          have HY : Hid (applyF [⟨3, (k : Int), 0, t, []⟩] ps = t) := Lib.hid (by rw [apply_if _ _ _ (by omega) (by omega), HPO.out]; simp)
          have HZ : Hid (applyF [⟨4, (k : Int), 0, [], e⟩] ps = c :: p) := Lib.hid (by rw [apply_else _ _ _ (by omega) (by omega), HPO.out]; simp)
          have HS1 := Lib.hid ((HP.out.keep hbw7).mono hz0)
          go_wp2_with (go_at_call 12; refine (Apply_n (fs := [⟨5, (k : Int), 0, t, e⟩]) (ps := ps) (R := t) _ HX.out (Sl.fm1 w7 ⟨5, (k : Int), 0, t, e⟩ _ _) (HS1.out.alloc_self _) (by simp; omega) HBP.out (by decide) (by decide) (by omega)).mono ?_)
          first | rintro e1 u1 rfl hd1 | rintro e1 u1 ⟨rfl, hd1⟩
          have hq1 : Below w7.heap.size w7 u1 := ((Below.refl _ _).alloc (Nat.le_refl _) _).trans (hd1.mono (by simp))
          have hB1 := hbw7.trans (hq1.mono hz0)
          have hz1' := hB1.size
          have HS2 := Lib.hid ((HP.out.keep hB1).mono hz1')
          clear hd1
          go_wp2_with (go_at_call 12; refine (Apply_n (fs := [⟨3, (k : Int), 0, t, []⟩]) (ps := ps) (R := t) _ HY.out (Sl.fm1 u1 ⟨3, (k : Int), 0, t, []⟩ _ _) (HS2.out.alloc_self _) (by simp; omega) HBP.out (by decide) (by decide) (by omega)).mono ?_)
          first | rintro e1 u2 rfl hd2 | rintro e1 u2 ⟨rfl, hd2⟩
          have hq2 : Below u1.heap.size u1 u2 := ((Below.refl _ _).alloc (Nat.le_refl _) _).trans (hd2.mono (by simp))
          have hB2 := hB1.trans (hq2.mono hz1')
          have hz2' := hB2.size
          have HS3 := Lib.hid ((HP.out.keep hB2).mono hz2')
          clear hd2
          go_wp2_with (go_at_call 12; refine (Apply_n (fs := [⟨4, (k : Int), 0, [], e⟩]) (ps := ps) (R := c :: p) _ HZ.out (Sl.fm1 u2 ⟨4, (k : Int), 0, [], e⟩ _ _) (HS3.out.alloc_self _) (by simp; omega) HBP.out (by decide) (by decide) (by omega)).mono ?_)
          first | rintro e1 u3 rfl hd3 | rintro e1 u3 ⟨rfl, hd3⟩
          have hq3 : Below u2.heap.size u2 u3 := ((Below.refl _ _).alloc (Nat.le_refl _) _).trans (hd3.mono (by simp))
          have hB3 := hB2.trans (hq3.mono hz2')
          clear hd3
          go_wp2_with (go_at_call 6; refine (awake_any _).mono ?_; rintro e w4 ⟨rfl, hb4⟩)
          go_ret
          exact ⟨rfl, hB3.trans (hb4.mono hB3.size)⟩
      · have HPO : Hid (partOf ps (k : Int) = []) := Lib.hid (by simp [partOf, List.getD_eq_getElem?_getD, List.getElem?_eq_none (by omega : ps.length ≤ k)])
        have hz0 := hbw7.size
        have HX : Hid (applyF [⟨5, (k : Int), 0, t, e⟩] ps = e) := Lib.hid (by rw [apply_both _ _ _ _ (by omega) (by omega), HPO.out]; simp)
        have HY : Hid (applyF [⟨3, (k : Int), 0, t, []⟩] ps = []) := Lib.hid (by rw [apply_if _ _ _ (by omega) (by omega), HPO.out]; simp)
        have HZ : Hid (applyF [⟨4, (k : Int), 0, [], e⟩] ps = e) := Lib.hid (by rw [apply_else _ _ _ (by omega) (by omega), HPO.out]; simp)
        have HS1 := Lib.hid ((HP.out.keep hbw7).mono hz0)
        go_wp2_with (go_at_call 12; refine (Apply_n (fs := [⟨5, (k : Int), 0, t, e⟩]) (ps := ps) (R := e) _ HX.out (Sl.fm1 w7 ⟨5, (k : Int), 0, t, e⟩ _ _) (HS1.out.alloc_self _) (by simp; omega) HBP.out (by decide) (by decide) (by omega)).mono ?_)
        first | rintro e1 u1 rfl hd1 | rintro e1 u1 ⟨rfl, hd1⟩
        have hq1 : Below w7.heap.size w7 u1 := ((Below.refl _ _).alloc (Nat.le_refl _) _).trans (hd1.mono (by simp))
        have hB1 := hbw7.trans (hq1.mono hz0)
        have hz1' := hB1.size
        have HS2 := Lib.hid ((HP.out.keep hB1).mono hz1')
        clear hd1
        go_wp2_with (go_at_call 12; refine (Apply_n (fs := [⟨3, (k : Int), 0, t, []⟩]) (ps := ps) (R := []) _ HY.out (Sl.fm1 u1 ⟨3, (k : Int), 0, t, []⟩ _ _) (HS2.out.alloc_self _) (by simp; omega) HBP.out (by decide) (by decide) (by omega)).mono ?_)
        first | rintro e1 u2 rfl hd2 | rintro e1 u2 ⟨rfl, hd2⟩
        have hq2 : Below u1.heap.size u1 u2 := ((Below.refl _ _).alloc (Nat.le_refl _) _).trans (hd2.mono (by simp))
        have hB2 := hB1.trans (hq2.mono hz1')
        have hz2' := hB2.size
        have HS3 := Lib.hid ((HP.out.keep hB2).mono hz2')
        clear hd2
        go_wp2_with (go_at_call 12; refine (Apply_n (fs := [⟨4, (k : Int), 0, [], e⟩]) (ps := ps) (R := e) _ HZ.out (Sl.fm1 u2 ⟨4, (k : Int), 0, [], e⟩ _ _) (HS3.out.alloc_self _) (by simp; omega) HBP.out (by decide) (by decide) (by omega)).mono ?_)
        first | rintro e1 u3 rfl hd3 | rintro e1 u3 ⟨rfl, hd3⟩
        have hq3 : Below u2.heap.size u2 u3 := ((Below.refl _ _).alloc (Nat.le_refl _) _).trans (hd3.mono (by simp))
        have hB3 := hB2.trans (hq3.mono hz2')
        clear hd3
        go_wp2_with (go_at_call 6; refine (awake_any _).mono ?_; rintro e w4 ⟨rfl, hb4⟩)
        go_ret
        exact ⟨rfl, hB3.trans (hb4.mono hB3.size)⟩
    | true =>
      go_wp2_with (go_at_call 11; refine (May_any _ _ _ (xs ++ ys) _ HXY.out (by omega)).mono ?_)
      rintro e w7 ⟨rfl, hb7⟩
      rw [hmay]
      have hbw7 := hbw6.trans (hb7.mono hz6)
      have hz7 := hbw7.size
      have HAP := Lib.hid (apply_append xs ys ps hmay)
      clear hmay
      have HL : Hid (∀ f ∈ xs ++ ys, f.thn.length ≤ 100 ∧ f.els.length ≤ 100) := Lib.hid (fun f hf => by
        rcases List.mem_append.1 hf with h | h
        · exact HBA.out f h
        · exact HBB.out f h)
      have HXY7 := Lib.hid ((HXY.out.keep hb7).mono hb7.size)
      have HP7 := Lib.hid ((HP.out.keep hbw7).mono hz7)
      go_wp2_with (go_at_call 12; refine (Apply_n (fs := xs ++ ys) (ps := ps) _ HAP.out HXY7.out HP7.out HL.out HBP.out (by decide) (by omega) (by omega)).mono ?_)
      rintro e w8 ⟨rfl, hb8⟩
      have hbw8 := hbw7.trans (hb8.mono hz7)
      have hz8 := hbw8.size
      have hl8 := apply_len HBA.out HBP.out
      have hl9 := apply_len HBB.out HBP.out
      have HA8 := Lib.hid ((HA.out.keep hbw8).mono hz8)
      have HP8 := Lib.hid ((HP.out.keep hbw8).mono hz8)
      go_wp2_with (go_at_call 12; refine (Apply_n (fs := xs) (ps := ps) _ rfl HA8.out HP8.out HBA.out HBP.out (by decide) (by omega) (by omega)).mono ?_)
      rintro e w9 ⟨rfl, hb9⟩
      have hbw9 := hbw8.trans (hb9.mono hz8)
      have hz9 := hbw9.size
      have HB9 := Lib.hid ((HB.out.keep hbw9).mono hz9)
      have HP9 := Lib.hid ((HP.out.keep hbw9).mono hz9)
      go_wp2_with (go_at_call 12; refine (Apply_n (fs := ys) (ps := ps) _ rfl HB9.out HP9.out HBB.out HBP.out (by decide) (by omega) (by omega)).mono ?_)
      rintro e w10 ⟨rfl, hb10⟩
      have hbw10 := hbw9.trans (hb10.mono hz9)
      by_cases hkl : k < ps.length
      · obtain ⟨p, hp⟩ : ∃ p, ps[k]? = some p := ⟨_, List.getElem?_eq_getElem hkl⟩
        have HPO0 : partOf ps (k : Int) = p := (by simp [partOf, List.getD_eq_getElem?_getD, hp])
        obtain ⟨b', o', hap, hbb, p0⟩ := (HP.out.keep hbw10).str hp
        subst hap
        clear hp
        rcases p with _ | ⟨c, p⟩
        · have HPO := Lib.hid HPO0
          clear HPO0
          have hz0 := hbw10.size
          have HX : Hid (applyF [⟨5, (k : Int), 0, t, e⟩] ps = e) := Lib.hid (by rw [apply_both _ _ _ _ (by omega) (by omega), HPO.out]; simp)
          have HY : Hid (applyF [⟨3, (k : Int), 0, t, []⟩] ps = []) := Lib.hid (by rw [apply_if _ _ _ (by omega) (by omega), HPO.out]; simp)
          have HZ : Hid (applyF [⟨4, (k : Int), 0, [], e⟩] ps = e) := Lib.hid (by rw [apply_else _ _ _ (by omega) (by omega), HPO.out]; simp)
          have HS1 := Lib.hid ((HP.out.keep hbw10).mono hz0)
          go_wp2_with (go_at_call 12; refine (Apply_n (fs := [⟨5, (k : Int), 0, t, e⟩]) (ps := ps) (R := e) _ HX.out (Sl.fm1 w10 ⟨5, (k : Int), 0, t, e⟩ _ _) (HS1.out.alloc_self _) (by simp; omega) HBP.out (by decide) (by decide) (by omega)).mono ?_)
          first | rintro e1 u1 rfl hd1 | rintro e1 u1 ⟨rfl, hd1⟩
          have hq1 : Below w10.heap.size w10 u1 := ((Below.refl _ _).alloc (Nat.le_refl _) _).trans (hd1.mono (by simp))
          have hB1 := hbw10.trans (hq1.mono hz0)
          have hz1' := hB1.size
          have HS2 := Lib.hid ((HP.out.keep hB1).mono hz1')
          clear hd1
          go_wp2_with (go_at_call 12; refine (Apply_n (fs := [⟨3, (k : Int), 0, t, []⟩]) (ps := ps) (R := []) _ HY.out (Sl.fm1 u1 ⟨3, (k : Int), 0, t, []⟩ _ _) (HS2.out.alloc_self _) (by simp; omega) HBP.out (by decide) (by decide) (by omega)).mono ?_)
          first | rintro e1 u2 rfl hd2 | rintro e1 u2 ⟨rfl, hd2⟩
          have hq2 : Below u1.heap.size u1 u2 := ((Below.refl _ _).alloc (Nat.le_refl _) _).trans (hd2.mono (by simp))
          have hB2 := hB1.trans (hq2.mono hz1')
          have hz2' := hB2.size
          have HS3 := Lib.hid ((HP.out.keep hB2).mono hz2')
          clear hd2
          go_wp2_with (go_at_call 12; refine (Apply_n (fs := [⟨4, (k : Int), 0, [], e⟩]) (ps := ps) (R := e) _ HZ.out (Sl.fm1 u2 ⟨4, (k : Int), 0, [], e⟩ _ _) (HS3.out.alloc_self _) (by simp; omega) HBP.out (by decide) (by decide) (by omega)).mono ?_)
          first | rintro e1 u3 rfl hd3 | rintro e1 u3 ⟨rfl, hd3⟩
          have hq3 : Below u2.heap.size u2 u3 := ((Below.refl _ _).alloc (Nat.le_refl _) _).trans (hd3.mono (by simp))
          have hB3 := hB2.trans (hq3.mono hz2')
          clear hd3
          go_wp2_with (go_at_call 6; refine (awake_any _).mono ?_; rintro e w4 ⟨rfl, hb4⟩)
          go_ret
          exact ⟨rfl, hB3.trans (hb4.mono hB3.size)⟩
        · have HPO := Lib.hid HPO0
          clear HPO0
          have hz0 := hbw10.size
          have HX : Hid (applyF [⟨5, (k : Int), 0, t, e⟩] ps = t) := Lib.hid (by rw [apply_both _ _ _ _ (by omega) (by omega), HPO.out]; simp)
          have HY : Hid (applyF [⟨3, (k : Int), 0, t, []⟩] ps = t) := Lib.hid (by rw [apply_if _ _ _ (by omega) (by omega), HPO.out]; simp)
          have HZ : Hid (applyF [⟨4, (k : Int), 0, [], e⟩] ps = c :: p) := Lib.hid (by rw [apply_else _ _ _ (by omega) (by omega), HPO.out]; simp)
          have HS1 := Lib.hid ((HP.out.keep hbw10).mono hz0)
          go_wp2_with (go_at_call 12; refine (Apply_n (fs := [⟨5, (k : Int), 0, t, e⟩]) (ps := ps) (R := t) _ HX.out (Sl.fm1 w10 ⟨5, (k : Int), 0, t, e⟩ _ _) (HS1.out.alloc_self _) (by simp; omega) HBP.out (by decide) (by decide) (by omega)).mono ?_)
          first | rintro e1 u1 rfl hd1 | rintro e1 u1 ⟨rfl, hd1⟩
          have hq1 : Below w10.heap.size w10 u1 := ((Below.refl _ _).alloc (Nat.le_refl _) _).trans (hd1.mono (by simp))
          have hB1 := hbw10.trans (hq1.mono hz0)
          have hz1' := hB1.size
          have HS2 := Lib.hid ((HP.out.keep hB1).mono hz1')
          clear hd1
          go_wp2_with (go_at_call 12; refine (Apply_n (fs := [⟨3, (k : Int), 0, t, []⟩]) (ps := ps) (R := t) _ HY.out (Sl.fm1 u1 ⟨3, (k : Int), 0, t, []⟩ _ _) (HS2.out.alloc_self _) (by simp; omega) HBP.out (by decide) (by decide) (by omega)).mono ?_)
          first | rintro e1 u2 rfl hd2 | rintro e1 u2 ⟨rfl, hd2⟩
          have hq2 : Below u1.heap.size u1 u2 := ((Below.refl _ _).alloc (Nat.le_refl _) _).trans (hd2.mono (by simp))
          have hB2 := hB1.trans (hq2.mono hz1')
          have hz2' := hB2.size
          have HS3 := Lib.hid ((HP.out.keep hB2).mono hz2')
          clear hd2
          go_wp2_with (go_at_call 12; refine (Apply_n (fs := [⟨4, (k : Int), 0, [], e⟩]) (ps := ps) (R := c :: p) _ HZ.out (Sl.fm1 u2 ⟨4, (k : Int), 0, [], e⟩ _ _) (HS3.out.alloc_self _) (by simp; omega) HBP.out (by decide) (by decide) (by omega)).mono ?_)
          first | rintro e1 u3 rfl hd3 | rintro e1 u3 ⟨rfl, hd3⟩
          have hq3 : Below u2.heap.size u2 u3 := ((Below.refl _ _).alloc (Nat.le_refl _) _).trans (hd3.mono (by simp))
          have hB3 := hB2.trans (hq3.mono hz2')
          clear hd3
          go_wp2_with (go_at_call 6; refine (awake_any _).mono ?_; rintro e w4 ⟨rfl, hb4⟩)
          go_ret
          exact ⟨rfl, hB3.trans (hb4.mono hB3.size)⟩
      · have HPO : Hid (partOf ps (k : Int) = []) := Lib.hid (by simp [partOf, List.getD_eq_getElem?_getD, List.getElem?_eq_none (by omega : ps.length ≤ k)])
        have hz0 := hbw10.size
        have HX : Hid (applyF [⟨5, (k : Int), 0, t, e⟩] ps = e) := Lib.hid (by rw [apply_both _ _ _ _ (by omega) (by omega), HPO.out]; simp)
        have HY : Hid (applyF [⟨3, (k : Int), 0, t, []⟩] ps = []) := Lib.hid (by rw [apply_if _ _ _ (by omega) (by omega), HPO.out]; simp)
        have HZ : Hid (applyF [⟨4, (k : Int), 0, [], e⟩] ps = e) := Lib.hid (by rw [apply_else _ _ _ (by omega) (by omega), HPO.out]; simp)
        have HS1 := Lib.hid ((HP.out.keep hbw10).mono hz0)
        go_wp2_with (go_at_call 12; refine (Apply_n (fs := [⟨5, (k : Int), 0, t, e⟩]) (ps := ps) (R := e) _ HX.out (Sl.fm1 w10 ⟨5, (k : Int), 0, t, e⟩ _ _) (HS1.out.alloc_self _) (by simp; omega) HBP.out (by decide) (by decide) (by omega)).mono ?_)
        first | rintro e1 u1 rfl hd1 | rintro e1 u1 ⟨rfl, hd1⟩
        have hq1 : Below w10.heap.size w10 u1 := ((Below.refl _ _).alloc (Nat.le_refl _) _).trans (hd1.mono (by simp))
        have hB1 := hbw10.trans (hq1.mono hz0)
        have hz1' := hB1.size
        have HS2 := Lib.hid ((HP.out.keep hB1).mono hz1')
        clear hd1
        go_wp2_with (go_at_call 12; refine (Apply_n (fs := [⟨3, (k : Int), 0, t, []⟩]) (ps := ps) (R := []) _ HY.out (Sl.fm1 u1 ⟨3, (k : Int), 0, t, []⟩ _ _) (HS2.out.alloc_self _) (by simp; omega) HBP.out (by decide) (by decide) (by omega)).mono ?_)
        first | rintro e1 u2 rfl hd2 | rintro e1 u2 ⟨rfl, hd2⟩
        have hq2 : Below u1.heap.size u1 u2 := ((Below.refl _ _).alloc (Nat.le_refl _) _).trans (hd2.mono (by simp))
        have hB2 := hB1.trans (hq2.mono hz1')
        have hz2' := hB2.size
        have HS3 := Lib.hid ((HP.out.keep hB2).mono hz2')
        clear hd2
        go_wp2_with (go_at_call 12; refine (Apply_n (fs := [⟨4, (k : Int), 0, [], e⟩]) (ps := ps) (R := e) _ HZ.out (Sl.fm1 u2 ⟨4, (k : Int), 0, [], e⟩ _ _) (HS3.out.alloc_self _) (by simp; omega) HBP.out (by decide) (by decide) (by omega)).mono ?_)
        first | rintro e1 u3 rfl hd3 | rintro e1 u3 ⟨rfl, hd3⟩
        have hq3 : Below u2.heap.size u2 u3 := ((Below.refl _ _).alloc (Nat.le_refl _) _).trans (hd3.mono (by simp))
        have hB3 := hB2.trans (hq3.mono hz2')
        clear hd3
        go_wp2_with (go_at_call 6; refine (awake_any _).mono ?_; rintro e w4 ⟨rfl, hb4⟩)
        go_ret
        exact ⟨rfl, hB3.trans (hb4.mono hB3.size)⟩
end Go.Proofs.Ytlomkfennnmkdaa
