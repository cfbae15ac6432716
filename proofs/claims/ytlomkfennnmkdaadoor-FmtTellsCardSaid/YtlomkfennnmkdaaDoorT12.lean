/- walk of fmts.Read -/
import Derived.Test.YtlomkfennnmkdaaDoorT11
namespace Go.Proofs.YtlomkfennnmkdaaDoor
open Go.RowKit
theorem part_some {l r : Str} {i : Int} {f : Fm} (w : World) (h0 : 0 ≤ i) (h1 : i ≤ 800000) (hs : l.length ≤ 800000) (hP : partR (l.drop i.toNat) = some (f, r)) :
    Calls Tryd.prog 30 #[.string ⟨(l).toArray⟩, .int .i64 i] w fun e w' => Below w.heap.size w w' ∧ f.thn.length ≤ l.length ∧ f.els.length ≤ l.length ∧ ∃ j : Nat, i < j ∧ j ≤ l.length ∧ l.drop j = r ∧ e = .returned (.tuple #[.agg #[.int .i64 (f).kind, .int .i64 (f).n, .int .i64 (f).cse, .string ⟨((f).thn).toArray⟩, .string ⟨((f).els).toArray⟩], .int .i64 j, .bool true]) := by
  obtain ⟨i, rfl⟩ := Int.eq_ofNat_of_zero_le h0
  refine (part_any l i w (by omega) hs).mono ?_
  rintro e w1 ⟨hb, hp⟩
  rw [Int.toNat_natCast] at hP
  rw [hP] at hp
  obtain ⟨a, b, j, c, d⟩ := hp
  exact ⟨hb, a, b, j, by omega, d⟩
theorem part_none {l : Str} {i : Int} (w : World) (h0 : 0 ≤ i) (h1 : i ≤ 800000) (hs : l.length ≤ 800000) (hP : partR (l.drop i.toNat) = none) :
    Calls Tryd.prog 30 #[.string ⟨(l).toArray⟩, .int .i64 i] w fun e w' => Below w.heap.size w w' ∧ e = .returned (.tuple #[.agg #[.int .i64 0, .int .i64 0, .int .i64 0, .string ⟨#[]⟩, .string ⟨#[]⟩], .int .i64 0, .bool false]) := by
  obtain ⟨i, rfl⟩ := Int.eq_ofNat_of_zero_le h0
  refine (part_any l i w (by omega) hs).mono ?_
  rintro e w1 ⟨hb, hp⟩
  rw [Int.toNat_natCast] at hP
  rw [hP] at hp
  exact ⟨hb, hp⟩
def lenOk (n : Nat) (fs : List Fm) : Prop := ∀ f ∈ fs, f.thn.length ≤ n ∧ f.els.length ≤ n
def ReadPost (l : Str) (i : Nat) (R : Option (List Fm × Str)) (e : Ending) (w' : World) : Prop :=
  match R with
  | none => e = .returned (.tuple #[.slice none 0 0, .int .i64 0, .bool false])
  | some (fs, r) => ∃ (a : Option Addr) (c j : Nat), e = .returned (.tuple #[.slice a fs.length c, .int .i64 j, .bool true]) ∧ Sl w' w'.heap.size a 5 fs.length (fcells fs) ∧ i ≤ j ∧ j < l.length ∧ l.drop j = r ∧ fs.length ≤ l.length ∧ lenOk l.length fs
theorem RS.texts {B bt bo : Nat} {tx : Str} {fs : List Fm} {w : World} (h : RS B bt bo tx fs w) :
    ∃ ta tc, w.cell? ⟨bt, 0, none⟩ = some (.slice ta tx.length tc) ∧ w.frozen? ⟨bt, 0, none⟩ = false ∧ w.ownsRow B 5 1 (.slice ta tx.length tc) tx.length (bcells tx) ∧ bt < w.heap.size := by
  obtain ⟨tv, ov, h1, h2, hbt, hbo, ht, ho⟩ := h
  obtain ⟨ta, tc, rfl⟩ := own_form ht
  exact ⟨ta, tc, by rw [Lib.cell_of_heap h1]; rfl, Lib.frozen_of_heap h1 0, ht, heap_lt h1⟩
theorem RS.parts {B bt bo : Nat} {tx : Str} {fs : List Fm} {w : World} (h : RS B bt bo tx fs w) :
    ∃ oa oc, w.cell? ⟨bo, 0, none⟩ = some (.slice oa fs.length oc) ∧ w.frozen? ⟨bo, 0, none⟩ = false ∧ w.ownsRow B 41 5 (.slice oa fs.length oc) fs.length (fcells fs) ∧ bo < w.heap.size := by
  obtain ⟨tv, ov, h1, h2, hbt, hbo, ht, ho⟩ := h
  obtain ⟨oa, oc, rfl⟩ := own_form ho
  exact ⟨oa, oc, by rw [Lib.cell_of_heap h2]; rfl, Lib.frozen_of_heap h2 0, ho, heap_lt h2⟩
theorem RS.text_app {B bt bo : Nat} {tx : Str} {fs : List Fm} {w w1 : World} {v v1 : Value} {c : UInt8} (h : RS B bt bo tx fs w) (hv : w.cell? ⟨bt, 0, none⟩ = some v)
    (hown : w1.ownsRow B 5 1 v1 (tx.length + 1) (bcells tx ++ [.int .u8 c.toNat])) (hg : w.grownBy w1 v.ownBlock) (hB : B ≤ w.heap.size) :
    ∃ a c', v1 = .slice a (tx.length + 1) c' ∧ w1.cell? ⟨bt, 0, none⟩ = some v ∧ w1.frozen? ⟨bt, 0, none⟩ = false ∧ RS B bt bo (tx ++ [c]) fs (w1.setCell ⟨bt, 0, none⟩ v1) ∧ Below B w (w1.setCell ⟨bt, 0, none⟩ v1) := by
  obtain ⟨tv, ov, h1, h2, hbt, hbo, ht, ho⟩ := h
  have htv : tv = v := by rw [Lib.cell_of_heap h1] at hv; simpa using hv
  subst htv
  have hne : bt ≠ bo := fun e => by subst e; rw [h1] at h2; simp at h2
  have g1 : w1.heap[bt]? = some (.cells #[tv] 43 (0, 0)) := (hg.block bt (heap_lt h1) (fun e => own_tag ht h1 (by decide) e.symm)).trans h1
  have g2 : w1.heap[bo]? = some (.cells #[ov] 22 (0, 0)) := (hg.block bo (heap_lt h2) (fun e => own_tag ht h2 (by decide) e.symm)).trans h2
  have ho1 := ho.kept hg (own_own ho ht (by decide))
  obtain ⟨a, c', rfl⟩ := own_form hown
  refine ⟨a, c', rfl, by rw [Lib.cell_of_heap g1]; rfl, Lib.frozen_of_heap g1 0, ⟨_, ov, heap_set1 g1, heap_setn g2 hne, hbt, hbo, ?_, own_set ho1 (own_tag ho1 g1 (by decide)) _⟩, ?_⟩
  · have := own_set hown (own_tag hown g1 (by decide)) (p := ⟨bt, 0, none⟩) (.slice a (tx.length + 1) c')
    simpa [bcells] using this
  · exact ((Below.refl B w).grown hg hB fun k hk => (ht.lt k hk).1).setCell (p := ⟨bt, 0, none⟩) hbt _
theorem RS.part_app {B bt bo : Nat} {tx : Str} {fs : List Fm} {w w1 : World} {v v1 : Value} {f : Fm} (h : RS B bt bo tx fs w) (hv : w.cell? ⟨bo, 0, none⟩ = some v)
    (hown : w1.ownsRow B 41 5 v1 (fs.length + 1) (fcells fs ++ [.int .i64 f.kind, .int .i64 f.n, .int .i64 f.cse, .string ⟨(f.thn).toArray⟩, .string ⟨(f.els).toArray⟩])) (hg : w.grownBy w1 v.ownBlock) (hB : B ≤ w.heap.size) :
    ∃ a c', v1 = .slice a (fs.length + 1) c' ∧ w1.cell? ⟨bo, 0, none⟩ = some v ∧ w1.frozen? ⟨bo, 0, none⟩ = false ∧ RS B bt bo tx (fs ++ [f]) (w1.setCell ⟨bo, 0, none⟩ v1) ∧ Below B w (w1.setCell ⟨bo, 0, none⟩ v1) := by
  obtain ⟨tv, ov, h1, h2, hbt, hbo, ht, ho⟩ := h
  have htv : ov = v := by rw [Lib.cell_of_heap h2] at hv; simpa using hv
  subst htv
  have hne : bo ≠ bt := fun e => by subst e; rw [h1] at h2; simp at h2
  have g1 : w1.heap[bt]? = some (.cells #[tv] 43 (0, 0)) := (hg.block bt (heap_lt h1) (fun e => own_tag ho h1 (by decide) e.symm)).trans h1
  have g2 : w1.heap[bo]? = some (.cells #[ov] 22 (0, 0)) := (hg.block bo (heap_lt h2) (fun e => own_tag ho h2 (by decide) e.symm)).trans h2
  have ht1 := ht.kept hg (own_own ht ho (by decide))
  obtain ⟨a, c', rfl⟩ := own_form hown
  refine ⟨a, c', rfl, by rw [Lib.cell_of_heap g2]; rfl, Lib.frozen_of_heap g2 0, ⟨tv, _, heap_setn g1 hne, heap_set1 g2, hbt, hbo, own_set ht1 (own_tag ht1 g2 (by decide)) _, ?_⟩, ?_⟩
  · have := own_set hown (own_tag hown g2 (by decide)) (p := ⟨bo, 0, none⟩) (.slice a (fs.length + 1) c')
    rw [fcells_snoc, List.length_append]; exact this
  · exact ((Below.refl B w).grown hg hB fun k hk => (ho.lt k hk).1).setCell (p := ⟨bo, 0, none⟩) hbo _
theorem flushF_len (tx : Str) (fs : List Fm) : (flushF tx fs).length ≤ tx.length + fs.length := by
  unfold flushF; split
  · omega
  · rename_i h; have := List.length_pos_iff.2 h; simp; omega
theorem flushF_ok {n : Nat} {tx : Str} {fs : List Fm} (h : lenOk n fs) (ht : tx.length ≤ n) : lenOk n (flushF tx fs) := by
  unfold flushF; split
  · exact h
  · intro f hf
    rcases List.mem_append.1 hf with hf | hf
    · exact h f hf
    · simp at hf; subst hf; exact ⟨ht, by simp⟩
theorem RS.start (B : Nat) (w : World) (h : B ≤ w.heap.size) : RS B (w.heap.size + 1) w.heap.size [] [] ((w.alloc (.cells #[.slice none 0 0] 22)).alloc (.cells #[.slice none 0 0] 43)) := by
  refine ⟨_, _, ?_, ?_, by omega, h, World.ownsRow_nil _ _ _ _, World.ownsRow_nil _ _ _ _⟩
  · have := heap_alloc_new (w.alloc (.cells #[.slice none 0 0] 22)) (.cells #[.slice none 0 0] 43)
    simpa using this
  · rw [Below.heap_alloc _ _ _ (by simp)]; exact heap_alloc_new w _
def RdRel (l : Str) (i : Nat) (R : Option (List Fm × Str)) (w : World) (q : Value) (wr : World) : Prop :=
  ∃ (j : Nat) (tx : Str) (fs : List Fm), i ≤ j ∧ j ≤ l.length ∧ q = .int .i64 j ∧ RS w.heap.size (w.heap.size + 1) w.heap.size tx fs wr ∧ Below w.heap.size w wr ∧ tx.length ≤ j ∧ fs.length ≤ j ∧ Hid (tx.length + fs.length ≤ j) ∧ Hid (lenOk l.length fs) ∧ Hid (readX (l.drop j) tx fs = R)
set_option maxHeartbeats 4000000 in
theorem Read_any (l : Str) (i : Nat) (w : World) (h1 : i ≤ l.length) (hs : l.length ≤ 700000) :
    Calls Tryd.prog 15 #[.string ⟨(l).toArray⟩, .int .i64 i] w fun e w' => Below w.heap.size w w' ∧ ReadPost l i (readX (l.drop i) [] []) e w' := by
  generalize hR : readX (l.drop i) [] [] = R
  have HR := Lib.hid hR
  clear hR
  obtain ⟨iu, hiu⟩ := info_parts u8_info
  go_enter Tryd.func15, Tryd.ntmps15
  go_wp2
  go_loopw [1] (fun q wr => RdRel l i R w q wr) (fun q _ => l.length - (intOf q).toNat)
  case atStart =>
    refine ⟨i, [], [], by omega, by omega, rfl, ?_, ?_, by simp, by simp, Lib.hid (by simp), Lib.hid (fun f hf => by simp at hf), HR⟩
    · exact RS.start _ w (Nat.le_refl _)
    · (repeat (first | with_reducible exact Below.refl _ _ | with_reducible assumption | (refine Below.setCell ?_ (by simp) _) | (refine Below.alloc ?_ (by first | (simp; done) | (simp; omega)) _) | (refine Below.drew ?_)))
  case round =>
    obtain ⟨j, tx, fs, hij, hjl, rfl, hrs, hb, htx, hfs, HTF, HLO, HF⟩ := hrel
    clear HR
    have hB := hb.size
    cases hd : l.drop j with
    | nil =>
      have h2 := drop_nil hd
      have HF' : Hid (R = none) := Lib.hid (by rw [← HF.out, hd]; rfl)
      clear hd HF
      go_wp2
      go_ret3
      exact ⟨hb, by rw [HF'.out]; rfl⟩
    | cons c r =>
      obtain ⟨h2, h3, hr⟩ := drop_cons hd
      have HF' : Hid (R = readX (c :: r) tx fs) := Lib.hid (by rw [← hd]; exact HF.out.symm)
      have Hr := Lib.hid hr
      have HD := Lib.hid hd
      clear hd HF hr
      by_cases c47 : c.toNat = 47
      · have HE : Hid (R = some (flushF tx fs, c :: r)) := Lib.hid (by rw [HF'.out, readX_cons, if_pos c47])
        have b47 : ((c.toNat : Int) == 47) = true := (by rw [beq_iff_eq]; omega)
        clear HF' c47
        go_wp2_with (go_at_call 29; refine (flush_any _ _ _ _ _ _ _ hrs (Below.refl _ _) hB (by omega) (by omega)).mono ?_; rintro e w1 ⟨rfl, hrs1, hb1, _⟩; obtain ⟨oa, oc, k1, k2, k3, k4⟩ := hrs1.parts)
        go_ret3
        refine ⟨hb.trans hb1, ?_⟩
        rw [HE.out]
        exact ⟨oa, oc, j, rfl, Sl.of_own k3, hij, h2, HD.out, by have := flushF_len tx fs; have := HTF.out; omega, flushF_ok HLO.out (by omega)⟩
      · have b47 : ((c.toNat : Int) == 47) = false := (by rw [beq_eq_false_iff_ne]; omega)
        by_cases c36 : c.toNat = 36
        · have b36 : ((c.toNat : Int) == 36) = true := (by rw [beq_iff_eq]; omega)
          cases hP : partR r with
          | none =>
            have HP : Hid (partR (l.drop ((j : Int) + 1).toNat) = none) := Lib.hid (by rw [show ((j : Int) + 1).toNat = j + 1 by omega, Hr.out]; exact hP)
            have HE : Hid (R = readX r (tx ++ [c]) fs) := Lib.hid (by rw [HF'.out, readX_cons, if_neg c47, if_pos c36, hP])
            clear HF' c47 c36 hP
            go_wp2_with (go_at_call 30; refine (part_none _ (by omega) (by omega) (by omega) HP.out).mono ?_; rintro e w1 ⟨hb1, rfl⟩; have hrs0 := hrs.keep hb1; have hB1 : w.heap.size ≤ w1.heap.size := (by have := hb1.size; omega); obtain ⟨ta, tc, k1, k2, k3, k4⟩ := hrs0.texts)
            have k5 : w.heap.size < w1.heap.size := by omega
            have hB2 : w.heap.size ≤ (w1.alloc (.cells #[.int .i64 0, .int .i64 0, .int .i64 0, .string ⟨#[]⟩, .string ⟨#[]⟩] 41)).heap.size := by simp; omega
            have k1' : (w1.alloc (.cells #[.int .i64 0, .int .i64 0, .int .i64 0, .string ⟨#[]⟩, .string ⟨#[]⟩] 41)).cell? ⟨w.heap.size + 1, 0, none⟩ = some (.slice ta tx.length tc) := by rw [World.cell?_alloc_lt w1 _ _ k4]; exact k1
            go_region_law (refine step_app1 w.heap.size 5 (w := (w1.alloc (.cells #[.int .i64 0, .int .i64 0, .int .i64 0, .string ⟨#[]⟩, .string ⟨#[]⟩] 41)).drew) rfl rfl _ _ 43 rfl Tryd.underlying43 hiu rfl (by decide) rfl (k3.alloc (.cells #[.int .i64 0, .int .i64 0, .int .i64 0, .string ⟨#[]⟩, .string ⟨#[]⟩] 41)) rfl (by first | rfl | simp) rfl (by simp [Value.oneCell']) (by omega) (by decide) hB2 ?_; intro v1 w2 hown1 hg1 _ _; obtain ⟨a1, c1, rfl, d1, d2, hrs1, hbl1⟩ := RS.text_app (w := (w1.alloc (.cells #[.int .i64 0, .int .i64 0, .int .i64 0, .string ⟨#[]⟩, .string ⟨#[]⟩] 41)).drew) (hrs0.keep ((Below.refl _ _).alloc (Nat.le_refl _) _).drew) k1' hown1 hg1 hB2)
            all_goals
              go_wp2
              go_roundw
              case rel =>
                refine ⟨j + 1, tx ++ [c], fs, by omega, by omega, by go_num, hrs1, Below.trans (((hb.trans (hb1.mono hB)).alloc hB1 _).drew) hbl1, by simp; omega, by omega, Lib.hid (by have := HTF.out; simp; omega), HLO, Lib.hid ?_⟩
                rw [Hr.out, ← HE.out]
              case measure => simp [intOf]; omega
          | some p =>
            obtain ⟨⟨fk, fn, fc, ft, fe⟩, r2⟩ := p
            have HP : Hid (partR (l.drop ((j : Int) + 1).toNat) = some (⟨fk, fn, fc, ft, fe⟩, r2)) := Lib.hid (by rw [show ((j : Int) + 1).toNat = j + 1 by omega, Hr.out]; exact hP)
            have HE : Hid (R = readX r2 [] (flushF tx fs ++ [⟨fk, fn, fc, ft, fe⟩])) := Lib.hid (by rw [HF'.out, readX_cons, if_neg c47, if_pos c36, hP])
            obtain ⟨im, him⟩ := info_parts fm_info
            have hfl := flushF_len tx fs
            clear HF' c47 c36 hP
            go_wp2_with (first
              | (go_at_call 30; refine (part_some _ (by omega) (by omega) (by omega) HP.out).mono ?_; rintro e w1 ⟨hb1, ht1, ht2, q, hq1, hq2, hq3, rfl⟩; have hrs0 := hrs.keep hb1; have hB1 : w.heap.size ≤ w1.heap.size := (by have := hb1.size; omega); have HQ := Lib.hid hq3; clear hq3)
              | (go_at_call 29; refine (flush_any w.heap.size _ _ tx fs w1 _ hrs0 ((Below.refl _ _).alloc (Nat.le_refl _) _) (by simp; omega) (by omega) (by omega)).mono ?_; rintro e w2 ⟨rfl, hrs2, hb2, hst⟩; have hbx := hst w1.heap.size (Nat.le_refl _) (by simp); rw [heap_alloc_new] at hbx; have f0 := Lib.cell_of_heap hbx 0; have f1 := Lib.cell_of_heap hbx 1; have f2 := Lib.cell_of_heap hbx 2; have f3 := Lib.cell_of_heap hbx 3; have f4 := Lib.cell_of_heap hbx 4; simp only [List.getElem?_toArray, List.getElem?_cons_zero, List.getElem?_cons_succ] at f0 f1 f2 f3 f4; obtain ⟨oa, oc, k1, k2, k3, k4⟩ := hrs2.parts; have hB2 : w.heap.size ≤ w2.heap.size := (by have := hb2.size; simp at this; omega); have HST := Lib.hid hst; have HBX := Lib.hid hbx; clear hst hbx)
              | (at_builtin; refine wpList_app1 w.heap.size 41 rfl _ _ 22 rfl Tryd.underlying22 him rfl (by decide) rfl k3 rfl (by first | rfl | simp) rfl (by simp [Value.oneCell']) (by omega) (by decide) hB2 ?_; intro v1 w3 hown1 hg1 _ _; obtain ⟨a1, c1, rfl, d1, d2, hrs3, hbl3⟩ := RS.part_app (f := ⟨fk, fn, fc, ft, fe⟩) hrs2 k1 hown1 hg1 hB2))
            go_roundw
            case rel =>
              refine ⟨q, [], flushF tx fs ++ [⟨fk, fn, fc, ft, fe⟩], by omega, hq2, rfl, hrs3, ?_, by simp, by have := HTF.out; simp; omega, Lib.hid (by have := HTF.out; simp; omega), Lib.hid ?_, Lib.hid ?_⟩
              · exact (((hb.trans (hb1.mono hB)).alloc hB1 _).trans hb2).trans hbl3
              · intro f hf
                rcases List.mem_append.1 hf with hf | hf
                · exact flushF_ok HLO.out (by omega) f hf
                · simp at hf; subst hf; exact ⟨ht1, ht2⟩
              · rw [HQ.out, ← HE.out]
            case measure => simp [intOf]; omega
        · have b36 : ((c.toNat : Int) == 36) = false := (by rw [beq_eq_false_iff_ne]; omega)
          by_cases c92 : c.toNat = 92
          · have b92 : ((c.toNat : Int) == 92) = true := (by rw [beq_iff_eq]; omega)
            obtain ⟨ta, tc, k1, k2, k3, k4⟩ := hrs.texts
            by_cases hst : stands r four = true
            · have HE : Hid (R = readX (r.drop 1) (tx ++ r.take 1) fs) := Lib.hid (by rw [HF'.out, readX_cons, if_neg c47, if_neg c36, if_pos ⟨c92, hst⟩])
              cases r with
              | nil => simp [stands] at hst
              | cons d r' =>
                obtain ⟨m2, m3, mr⟩ := drop_cons Hr.out
                have m4 : (j : Int) + 1 < l.length := by omega
                have m5 : 0 ≤ (j : Int) + 1 := by omega
                have Hmr := Lib.hid mr
                have hst' : stands (List.drop (j + 1) l) [36, 125, 92, 47] = true := by rw [Hr.out]; exact hst
                have HE' : Hid (R = readX r' (tx ++ [d]) fs) := HE
                clear HF' c47 c36 c92 hst HE mr
                go_wp2_with (go_at_call 31; refine (stands_any _ _ _ _ (by omega) (by omega) (by omega) (by simp)).mono ?_; rintro e w1 ⟨rfl, rfl⟩)
                go_region_law (refine step_app1 w.heap.size 5 (w := wr.drew) rfl rfl _ _ 43 rfl Tryd.underlying43 hiu rfl (by decide) rfl k3 rfl (by first | rfl | simp) rfl (by simp [Value.oneCell']) (by omega) (by decide) hB ?_; intro v1 w2 hown1 hg1 _ _; obtain ⟨a1, c1, rfl, d1, d2, hrs1, hbl1⟩ := RS.text_app (w := wr.drew) hrs k1 hown1 hg1 hB)
                all_goals
                  go_wp2
                  go_roundw
                  case rel =>
                    refine ⟨j + 2, tx ++ [d], fs, by omega, by omega, by go_num, hrs1, hb.drew.trans hbl1, by simp; omega, by omega, Lib.hid (by have := HTF.out; simp; omega), HLO, Lib.hid ?_⟩
                    rw [Hmr.out, ← HE'.out]
                  case measure => simp [intOf]; omega
            · have HE : Hid (R = readX r (tx ++ [c]) fs) := Lib.hid (by rw [HF'.out, readX_cons, if_neg c47, if_neg c36, if_neg (fun h => hst h.2)])
              have hst' : stands (List.drop (j + 1) l) [36, 125, 92, 47] = false := by rw [Hr.out]; simpa [four] using hst
              clear HF' c47 c36 c92 hst
              go_wp2_with (go_at_call 31; refine (stands_any _ _ _ _ (by omega) (by omega) (by omega) (by simp)).mono ?_; rintro e w1 ⟨rfl, rfl⟩)
              go_region_law (refine step_app1 w.heap.size 5 (w := wr.drew) rfl rfl _ _ 43 rfl Tryd.underlying43 hiu rfl (by decide) rfl k3 rfl (by first | rfl | simp) rfl (by simp [Value.oneCell']) (by omega) (by decide) hB ?_; intro v1 w2 hown1 hg1 _ _; obtain ⟨a1, c1, rfl, d1, d2, hrs1, hbl1⟩ := RS.text_app (w := wr.drew) hrs k1 hown1 hg1 hB)
              all_goals
                go_wp2
                go_roundw
                case rel =>
                  refine ⟨j + 1, tx ++ [c], fs, by omega, by omega, by go_num, hrs1, Below.trans hb.drew hbl1, by simp; omega, by omega, Lib.hid (by have := HTF.out; simp; omega), HLO, Lib.hid ?_⟩
                  rw [Hr.out, ← HE.out]
                case measure => simp [intOf]; omega
          · have b92 : ((c.toNat : Int) == 92) = false := (by rw [beq_eq_false_iff_ne]; omega)
            have HE : Hid (R = readX r (tx ++ [c]) fs) := Lib.hid (by rw [HF'.out, readX_cons, if_neg c47, if_neg c36, if_neg (fun h => c92 h.1)])
            clear HF' c47 c36 c92
            obtain ⟨ta, tc, k1, k2, k3, k4⟩ := hrs.texts
            go_wp2
            go_region_law (refine step_app1 w.heap.size 5 (w := wr.drew) rfl rfl _ _ 43 rfl Tryd.underlying43 hiu rfl (by decide) rfl k3 rfl (by first | rfl | simp) rfl (by simp [Value.oneCell']) (by omega) (by decide) hB ?_; intro v1 w2 hown1 hg1 _ _; obtain ⟨a1, c1, rfl, d1, d2, hrs1, hbl1⟩ := RS.text_app (w := wr.drew) hrs k1 hown1 hg1 hB)
            all_goals
              go_wp2
              go_roundw
              case rel =>
                refine ⟨j + 1, tx ++ [c], fs, by omega, by omega, by go_num, hrs1, Below.trans hb.drew hbl1, by simp; omega, by omega, Lib.hid (by have := HTF.out; simp; omega), HLO, Lib.hid ?_⟩
                rw [Hr.out, ← HE.out]
              case measure => simp [intOf]; omega
end Go.Proofs.YtlomkfennnmkdaaDoor
