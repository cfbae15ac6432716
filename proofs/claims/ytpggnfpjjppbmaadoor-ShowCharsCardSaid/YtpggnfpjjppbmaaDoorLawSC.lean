/- walk of gimletlaw15.ShowChars -/
import Derived.Test.YtpggnfpjjppbmaaDoorBL
import Derived.Test.YtpggnfpjjppbmaaDoorPC
set_option maxRecDepth 100000
namespace Go.Proofs.YtpggnfpjjppbmaaDoor
open Go.RowKit
/-- The first loop: the characters as parts. -/
def SchRel (L : List Str) (w2 : World) (v q : Value) (wr : World) : Prop := ∃ i : Nat, i ≤ L.length ∧ q = .int .i64 i ∧ OwnX wr w2.heap.size v ((L.take i).map chrR) ∧ Below w2.heap.size w2 wr
/-- The second one: what is told by them. -/
def SbkRel (hd : Str) (ks : List Rx) (wz : World) (v q : Value) (wr : World) : Prop := ∃ i : Nat, i ≤ ks.length ∧ q = .int .i64 i ∧ v = .string ⟨(hd ++ ((ks.take i).map Rx.chr).flatten).toArray⟩ ∧ wr = wz
theorem take_snoc {α : Type} {l : List α} {i : Nat} {x : α} (h : l[i]? = some x) : l.take (i + 1) = l.take i ++ [x] := by rw [List.take_add_one, h]; rfl
theorem chr_small (p : Str) (h : p.length ≤ 1000000) : (chrR p).small := by
  simp only [chrR, Rx.small, Rx.small1, Rx.smallL]; exact ⟨⟨by omega, by simp, by simp, by simp⟩, trivial⟩
/- the second loop: K: what the box holds; HK: head of what is told -/
set_option maxHeartbeats 4000000 in
theorem ShowChars_walk (s : Str) (w : World) (ht : Tab w) (hs : s.length ≤ maxLen) :
    Calls Tryd.prog 5 #[.string ⟨(s).toArray⟩] w fun e w' => e = .returned (.bool true) ∧ Below w.heap.size w w' := by
  unfold maxLen at hs
  have HAW := Lib.hid awake_any
  have HT := Lib.hid ht
  clear ht
  by_cases h60 : s.length ≤ 60
  case neg =>
    go_enter Tryd.func5, Tryd.ntmps5
    have hr := Below.refl w.heap.size w
    go_wp2_with (go_at_call 10; refine (HAW.out _ HT.out).mono ?_; rintro e w4 ⟨rfl, hb4⟩)
    all_goals first
      | (go_ret; exact ⟨rfl, hb4⟩)
      | (exfalso; omega)
  have key : headP s → Hid (∃ (L : List Str) (X : Rx) (T : Str), splitL s = L ∧ L.length ≤ 60 ∧ (Rx.partsL (L.map chrR) ≤ 1000000 ∧ Rx.smallL (L.map chrR)) ∧ seqR (L.map chrR) = X ∧ X.small ∧ X.parts ≤ 61 ∧ X.groups = 0 ∧ backS X = s ∧ T.length ≤ 2 * s.length ∧ s.length ≤ T.length ∧
      (∀ (S : Nat → Prop) (cc : List Value) (w' : World), RxV w' S cc X → Tab w' → Calls Tryd.prog 11 #[.agg cc.toArray] w' fun e w'' => e = .returned (.tuple #[.string ⟨(T).toArray⟩, .int .i64 0]) ∧ Below w'.heap.size w' w'') ∧
      (∀ w', Calls Tryd.prog 19 #[.string ⟨(T).toArray⟩] w' fun e w'' => ReadPost w'.heap.size w' (.ok X) e w'')) := fun hp => Lib.hid (by
    obtain ⟨f1, f2, f3, f4, f5, f6, f7, f8⟩ := chars_all h60 hp
    have hl := splitM_len s
    refine ⟨splitM s, seqR (chrL s), (seqR (chrL s)).tell, splitL_eq s, by omega, ⟨by unfold chrL at f7; omega, f8⟩, rfl, f2, f6, f5, back_chars s, f3, f4, ?_, ?_⟩
    · intro S cc w' hv t
      exact Show_yes S _ cc w' (by omega) f2 hv t f1 (by omega)
    · intro w'
      exact Read_okX w' (by omega) (read_tell f1 (by omega)))
  by_cases hnil : s = []
  · obtain ⟨L, X, T, hsp, hL60, hpl, hX, hxs, hxp, hgr, hbk, hT1, hT2, hsh, hrd⟩ := (key (by rw [hnil]; exact trivial)).out
    have HSP := Lib.hid hsp; have HPL := Lib.hid hpl; have HX := Lib.hid hX; have HXS := Lib.hid hxs; have HGR := Lib.hid hgr; have HBKS := Lib.hid hbk; have HSH := Lib.hid hsh; have HRD := Lib.hid hrd
    clear hsp hpl hX hxs hgr hbk hsh hrd key
    have l0 : s.length = 0 := by rw [hnil]; rfl
    clear hnil
    have hb0 := Below.refl w.heap.size w
    go_enter Tryd.func5, Tryd.ntmps5
    go_upto_region 4 with fail
    clear l0
    go_wp2_with (go_at_call 18; refine (RSplit_any s _ (by omega)).mono ?_)
    rintro e w2 ⟨sa, sc, rfl, hso, hb2'⟩
    have hb2 := bel2 hb0 hb2'
    have HSL := Lib.hid (HSP.out ▸ Sl.of_own hso)
    rw [HSP.out]
    obtain ⟨ix, hix⟩ := info_parts rx_info
    clear hso hb2'
    go_wp2
    go_loopw [3, 5] (fun v q wr => SchRel L w2 v q wr) (fun _ q _ => L.length - (intOf q).toNat)
    case atStart => exact ⟨0, Nat.zero_le _, rfl, OwnX.nil _ _, Below.refl _ _⟩
    case round =>
      obtain ⟨i, hi, rfl, hox, hbr⟩ := hrel
      have hbwr := bel2 hb2 hbr
      by_cases hin : i = L.length
      · subst hin
        rw [List.take_length] at hox
        obtain ⟨va, vn, vc, rfl⟩ := hox.form
        have HSEQ := Lib.hid (Seq_res wr hox HPL.out.1 HPL.out.2)
        clear hox hbr
        go_wp2_with (go_at_call 15; refine HSEQ.out.mono ?_)
        rintro e w3 ⟨cc3, rfl, hv3, hb3'⟩
        rw [HX.out] at hv3
        have HVX := Lib.hid hv3
        have hb3 := bel2 hbwr hb3'
        clear HSEQ hb3' hv3
        go_wp2_with (go_at_call 11; refine (HSH.out _ _ _ HVX.out (HT.out.keep hb3)).mono ?_)
        first | rintro e w4 rfl hb4' | rintro e w4 ⟨rfl, hb4'⟩
        have hb4 := bel2 hb3 hb4'
        clear hb4' HVX
        go_wp2_with (go_at_call 19; refine (HRD.out _).mono ?_)
        rintro e w3 ⟨hb3, cc3, rfl, hv3⟩
        obtain ⟨k3, c3, n3, r3, l3, h3, z3, s3, a3, d3, b3, g3, hx3, rfl⟩ := hv3.box
        have HV3 := Lib.hid hv3
        clear hv3
        unfold rxc at HV3 ⊢
        subst hx3
        obtain ⟨w5, hw5⟩ : ∃ w5, w5 = w3.alloc (.cells #[.int .i64 k3, .string ⟨(c3).toArray⟩, .bool n3, .slice a3 r3.length d3, .int .i64 l3, .int .i64 h3, .bool z3, .slice b3 s3.length g3] 25) := ⟨_, rfl⟩
        have hB5 : Below w3.heap.size w3 w5 := by rw [hw5]; exact (Below.refl _ _).alloc (Nat.le_refl _) _
        have hq5 : w5.heap[w3.heap.size]? = some (.cells #[.int .i64 k3, .string ⟨(c3).toArray⟩, .bool n3, .slice a3 r3.length d3, .int .i64 l3, .int .i64 h3, .bool z3, .slice b3 s3.length g3] 25 (0, 0)) := by rw [hw5]; exact heap_alloc_new w3 _
        have HQ5 := Lib.hid hq5
        have HV5 := Lib.hid (HV3.out.later hB5)
        have hb5 := bel2 (bel2 hb4 hb3) hB5
        subst hw5
        obtain ⟨y0, y1, y2, y3, y4, y5, y6, y7, _⟩ := bx_cells HQ5.out
        have dT1 : decide (2 * (s.length : Int) < (T.length : Int)) = false := decide_eq_false (by omega)
        have dT2 : decide ((T.length : Int) < (s.length : Int)) = false := decide_eq_false (by omega)
        have gw : IntKind.i64.wrap (2 * (s.length : Int)) = 2 * (s.length : Int) := IntWalk.i64_in _ (by omega)
        go_wp2_with (go_at_call 20; refine (Groups_any _ _ _ (Nat.le_refl _) (by omega) _ _ HV5.out).mono ?_)
        rintro e w6 ⟨rfl, hb6'⟩
        have hg0 : (((Rx.mk k3 c3 n3 r3 l3 h3 z3 s3).groups : Nat) : Int) = 0 := by rw [HGR.out]; rfl
        rw [hg0]
        have hbw6 := bel2 hb5 hb6'
        clear y0 y1 y2 y3 y4 y5 y6 y7
        obtain ⟨y0, y1, y2, y3, y4, y5, y6, y7, _⟩ := bx_cells ((hb6'.block _ (heap_lt HQ5.out)).trans HQ5.out)
        obtain ⟨ra6, rc6, ka6, kc6, he6, _, hks6⟩ := (HV5.out.later hb6').open_
        have he7 := congrArg (fun l => l[7]?) he6
        simp [rxc] at he7
        obtain ⟨rfl, rfl⟩ := he7
        have HKS := Lib.hid hks6
        have hbks := HBKS.out
        have hs3 : s3.length ≤ 61 := by have := Rx.len_parts s3; simp only [Rx.parts] at hxp; omega
        clear he6 hks6 HV5 HQ5 hb6' hb5 hq5 hB5 hb3 hb4 HRD HSH HX HXS HGR hg0 hxp HV3 HPL HSL HSP hb2 hbwr hix
        by_cases hk2 : k3 = 2
        · have g2 : (k3 == 2) = true := beq_iff_eq.2 hk2
          have HBK : Hid (c3 ++ (s3.map Rx.chr).flatten = s) := Lib.hid (by rw [← hbks]; simp [backS, Rx.kind, Rx.chr, Rx.kids, hk2])
          clear hbks hk2
          go_wp2
          
          clear dT1 dT2 gw hT1 hT2
          go_loopw [10, 11] (fun v q wr => SbkRel (c3) s3 w6 v q wr) (fun _ q _ => s3.length - (intOf q).toNat)
          case atStart => exact ⟨0, Nat.zero_le _, rfl, by simp, rfl⟩
          case round =>
            obtain ⟨i, hi, rfl, rfl, rfl⟩ := hrel
            have hbl : ((c3) ++ ((s3.take i).map Rx.chr).flatten).length ≤ 60 := by
              have h := congrArg List.length HBK.out
              have h2 : ((c3) ++ (s3.map Rx.chr).flatten).length = ((c3) ++ ((s3.take i).map Rx.chr).flatten).length + ((s3.drop i).map Rx.chr).flatten.length := by
                rw [← List.length_append, List.append_assoc, ← List.flatten_append, ← List.map_append, List.take_append_drop]
              omega
            by_cases hin : i = s3.length
            · subst hin
              have he : ((c3) ++ ((s3.take s3.length).map Rx.chr).flatten) = s := by rw [List.take_length]; exact HBK.out
              rw [he]
              clear he hbl y0 y1 y2 y3 y4 y5 y6
              go_wp2_with (go_at_call 10; refine (HAW.out _ (HT.out.keep hbw6)).mono ?_; rintro e w9 ⟨rfl, hb9⟩)
              go_ret
              exact ⟨rfl, bel2 hbw6 hb9⟩
            · obtain ⟨y, hy⟩ : ∃ y, s3[i]? = some y := ⟨_, List.getElem?_eq_getElem (by omega)⟩
              have hne : ((i : Int) < s3.length) := by omega
              obtain ⟨yk, yc, yn, yr, yl, yh, yz, ys⟩ := y
              obtain ⟨bb, oo, ra, rc, ka, kc, hab, _, hblt, _, _, _, _, c1, _⟩ := HKS.out.cells hy
              have hle : ((c3) ++ ((s3.take (i + 1)).map Rx.chr).flatten) = ((c3) ++ ((s3.take i).map Rx.chr).flatten) ++ yc := by
                rw [take_snoc hy]; simp [Rx.chr]
              have hyl : yc.length ≤ 60 := by
                have h := congrArg List.length HBK.out
                have h2 : ((c3) ++ (s3.map Rx.chr).flatten).length = ((c3) ++ ((s3.take (i + 1)).map Rx.chr).flatten).length + ((s3.drop (i + 1)).map Rx.chr).flatten.length := by
                  rw [← List.length_append, List.append_assoc, ← List.flatten_append, ← List.map_append, List.take_append_drop]
                rw [hle] at h2
                have h3 : (((c3) ++ ((s3.take i).map Rx.chr).flatten) ++ yc).length = ((c3) ++ ((s3.take i).map Rx.chr).flatten).length + yc.length := List.length_append
                omega
              have HLE := Lib.hid hle
              obtain ⟨acc, hacc⟩ : ∃ acc, (c3) ++ ((s3.take i).map Rx.chr).flatten = acc := ⟨_, rfl⟩
              rw [hacc] at hbl HLE ⊢
              clear hy hle hacc
              subst hab
              go_wp2
              go_roundw
              case rel => exact ⟨i + 1, by omega, by go_num, by rw [HLE.out], rfl⟩
              case measure => simp [intOf]; omega
        · have g2 : (k3 == 2) = false := beq_eq_false_iff_ne.2 hk2
          have HBK : Hid (([] : Str) ++ (s3.map Rx.chr).flatten = s) := Lib.hid (by rw [← hbks]; simp [backS, Rx.kind, Rx.kids, hk2])
          clear hbks hk2
          go_wp2
          
          clear dT1 dT2 gw hT1 hT2
          go_loopw [10, 11] (fun v q wr => SbkRel (([] : Str)) s3 w6 v q wr) (fun _ q _ => s3.length - (intOf q).toNat)
          case atStart => exact ⟨0, Nat.zero_le _, rfl, by simp, rfl⟩
          case round =>
            obtain ⟨i, hi, rfl, rfl, rfl⟩ := hrel
            have hbl : ((([] : Str)) ++ ((s3.take i).map Rx.chr).flatten).length ≤ 60 := by
              have h := congrArg List.length HBK.out
              have h2 : ((([] : Str)) ++ (s3.map Rx.chr).flatten).length = ((([] : Str)) ++ ((s3.take i).map Rx.chr).flatten).length + ((s3.drop i).map Rx.chr).flatten.length := by
                rw [← List.length_append, List.append_assoc, ← List.flatten_append, ← List.map_append, List.take_append_drop]
              omega
            by_cases hin : i = s3.length
            · subst hin
              have he : ((([] : Str)) ++ ((s3.take s3.length).map Rx.chr).flatten) = s := by rw [List.take_length]; exact HBK.out
              rw [he]
              clear he hbl y0 y1 y2 y3 y4 y5 y6
              go_wp2_with (go_at_call 10; refine (HAW.out _ (HT.out.keep hbw6)).mono ?_; rintro e w9 ⟨rfl, hb9⟩)
              go_ret
              exact ⟨rfl, bel2 hbw6 hb9⟩
            · obtain ⟨y, hy⟩ : ∃ y, s3[i]? = some y := ⟨_, List.getElem?_eq_getElem (by omega)⟩
              have hne : ((i : Int) < s3.length) := by omega
              obtain ⟨yk, yc, yn, yr, yl, yh, yz, ys⟩ := y
              obtain ⟨bb, oo, ra, rc, ka, kc, hab, _, hblt, _, _, _, _, c1, _⟩ := HKS.out.cells hy
              have hle : ((([] : Str)) ++ ((s3.take (i + 1)).map Rx.chr).flatten) = ((([] : Str)) ++ ((s3.take i).map Rx.chr).flatten) ++ yc := by
                rw [take_snoc hy]; simp [Rx.chr]
              have hyl : yc.length ≤ 60 := by
                have h := congrArg List.length HBK.out
                have h2 : ((([] : Str)) ++ (s3.map Rx.chr).flatten).length = ((([] : Str)) ++ ((s3.take (i + 1)).map Rx.chr).flatten).length + ((s3.drop (i + 1)).map Rx.chr).flatten.length := by
                  rw [← List.length_append, List.append_assoc, ← List.flatten_append, ← List.map_append, List.take_append_drop]
                rw [hle] at h2
                have h3 : (((([] : Str)) ++ ((s3.take i).map Rx.chr).flatten) ++ yc).length = ((([] : Str)) ++ ((s3.take i).map Rx.chr).flatten).length + yc.length := List.length_append
                omega
              have HLE := Lib.hid hle
              obtain ⟨acc, hacc⟩ : ∃ acc, (([] : Str)) ++ ((s3.take i).map Rx.chr).flatten = acc := ⟨_, rfl⟩
              rw [hacc] at hbl HLE ⊢
              clear hy hle hacc
              subst hab
              go_wp2
              go_roundw
              case rel => exact ⟨i + 1, by omega, by go_num, by rw [HLE.out], rfl⟩
              case measure => simp [intOf]; omega
      · obtain ⟨p, hp⟩ : ∃ p, L[i]? = some p := ⟨_, List.getElem?_eq_getElem (by omega)⟩
        have hlt := hox.lt
        obtain ⟨va, vn, vc, rfl⟩ := hox.form
        obtain ⟨csst, hct, hvt⟩ := hox
        obtain ⟨bb, oo, rfl, hbb, k0⟩ := (HSL.out.keep hbr).str hp
        have hne : ((i : Int) < L.length) := by omega
        have hbn : Below wr.heap.size wr (wr.alloc (.cells (rxc 2 p false none 0 0 0 0 false none 0 0).toArray 25)) := (Below.refl _ _).alloc (Nat.le_refl _) _
        have ho6 := own_below hct hbn
        have hsl6 := Sl.lit (n := 1) (sz := 8) (heap_alloc_new wr (.cells (rxc 2 p false none 0 0 0 0 false none 0 0).toArray 25)) rfl
        have hrv6 := hvt.later hbn
        have hcv6 : RxV (wr.alloc (.cells (rxc 2 p false none 0 0 0 0 false none 0 0).toArray 25)) (fun b => w2.heap.size ≤ b ∧ (Value.slice va vn vc).ownBlock ≠ some b) (rxc 2 p false none 0 0 0 0 false none 0 0) (chrR p) := RxV.close (rs := []) (ks := []) (SlS.none_ _ _ _ _) ⟨[], SlS.none_ _ _ _ _, .nil⟩
        have hone := hcv6.one
        have hzr := hbr.size
        have htk : ((L.take (i + 1)).map chrR) = (L.take i).map chrR ++ [chrR p] := by rw [take_snoc hp]; simp
        have hll : ((L.take i).map chrR).length ≤ 60 := by simp; omega
        unfold rxc at ho6 hsl6 hrv6 hcv6 hone hbn
        have HO6 := Lib.hid ho6; have HSL6 := Lib.hid hsl6; have HRV6 := Lib.hid hrv6; have HONE := Lib.hid hone; have HTK := Lib.hid htk
        have HCV6 := Lib.hid hcv6
        clear ho6 hsl6 hrv6 hcv6 hone hct hvt htk hp
        go_wp2_with (at_builtin; refine wpList_appM w2.heap.size 25 rfl _ _ 23 rfl Tryd.underlying23 hix rfl (by decide) rfl HO6.out rfl HSL6.out HONE.out (by omega) (by omega) (by decide) (by simp; omega) ?_)
        intro v7 w7 ho7 hq7 hb7 hmv
        have hox7 : OwnX w7 w2.heap.size v7 ((L.take (i + 1)).map chrR) := by
          rw [HTK.out]
          refine OwnX.app (ds := [_]) (m := 1) HRV6.out (.cons HCV6.out .nil) rfl ?_ hq7 hmv
          simpa [Nat.min_eq_left hi] using ho7
        have hbr7 : Below w2.heap.size w2 w7 := (hbr.trans (hbn.mono hzr)).trans (hb7.mono (by first | (simp; done) | (simp; omega)))
        clear ho7 hq7 hb7 hmv
        go_wp2
        go_roundw
        case rel => exact ⟨i + 1, by omega, by go_num, hox7, hbr7⟩
        case measure => simp [intOf]; omega
  · have hsl : ∃ (b : Bool) (P : Str) (L' : List Str), splitL s = P :: L' ∧ properB P = b ∧ P.length ≤ 60 ∧ (b = true → headP s) := by
      cases s with
      | nil => exact absurd rfl hnil
      | cons c r =>
        refine ⟨!insideB c, c :: r.takeWhile insideB, splitM (r.dropWhile insideB), by rw [splitL_eq, splitM_cons'], ?_, ?_, ?_⟩
        · show (!insideB c && (r.takeWhile insideB).all insideB) = _
          rw [List.all_takeWhile, Bool.and_true]
        · have := (List.takeWhile_sublist insideB (l := r)).length_le
          simp only [List.length_cons] at h60 ⊢; omega
        · intro h; show insideB c = false; simpa using h
    obtain ⟨b, P, L', hL', hPb, hPl, hb⟩ := hsl
    have HL' := Lib.hid hL'
    have HPB := Lib.hid hPb
    have l1 : 0 < s.length := List.length_pos_iff.2 hnil
    have d1 : decide ((0 : Int) < (s.length : Int)) = true := decide_eq_true (by omega)
    clear hL' hPb hnil
    cases b with
    | false =>
      clear key hb
      go_enter Tryd.func5, Tryd.ntmps5
      go_wp2_with (go_at_call 18; refine (RSplit_any s _ (by omega)).mono ?_)
      rintro e w2 ⟨sa, sc, rfl, hso, hb2⟩
      obtain ⟨bb, oo, rfl, hbb, k0⟩ := (HL'.out ▸ Sl.of_own hso : Sl w2 w2.heap.size sa 1 (splitL s).length (scells (P :: L'))).str (k := 0) (p := P) rfl
      simp only [Nat.add_zero] at k0
      rw [HL'.out]
      clear hso
      go_wp2_with (go_at_call 17; refine (RProper_any P _ (by omega)).mono ?_)
      rintro e w3 ⟨rfl, hb3⟩
      rw [HPB.out]
      have hb23 := bel2 hb2 hb3
      go_wp2_with (go_at_call 10; refine (HAW.out _ (HT.out.keep hb23)).mono ?_; rintro e w9 ⟨rfl, hb9⟩)
      go_ret
      exact ⟨rfl, bel2 hb23 hb9⟩
    | true =>
      obtain ⟨L, X, T, hsp, hL60, hpl, hX, hxs, hxp, hgr, hbk, hT1, hT2, hsh, hrd⟩ := (key (hb rfl)).out
      have HSP := Lib.hid hsp; have HPL := Lib.hid hpl; have HX := Lib.hid hX; have HXS := Lib.hid hxs; have HGR := Lib.hid hgr; have HBKS := Lib.hid hbk; have HSH := Lib.hid hsh; have HRD := Lib.hid hrd
      clear hsp hpl hX hxs hgr hbk hsh hrd key hb
      go_enter Tryd.func5, Tryd.ntmps5
      go_wp2_with (go_at_call 18; refine (RSplit_any s _ (by omega)).mono ?_)
      rintro e w2 ⟨sa, sc, rfl, hso, hb2⟩
      obtain ⟨bb, oo, rfl, hbb, k0⟩ := (HL'.out ▸ Sl.of_own hso : Sl w2 w2.heap.size sa 1 (splitL s).length (scells (P :: L'))).str (k := 0) (p := P) rfl
      simp only [Nat.add_zero] at k0
      rw [HL'.out]
      clear hso
      go_wp2_with (go_at_call 17; refine (RProper_any P _ (by omega)).mono ?_)
      rintro e w3 ⟨rfl, hb3⟩
      rw [HPB.out]
      have hb23 := bel2 hb2 hb3
      go_upto_region 4 with fail
      clear l1 d1 k0 hb2 hb3 HL' HPB hPl hbb
      go_wp2_with (go_at_call 18; refine (RSplit_any s _ (by omega)).mono ?_)
      rintro e w2 ⟨sa, sc, rfl, hso, hb2'⟩
      have hb2 := bel2 hb23 hb2'
      have HSL := Lib.hid (HSP.out ▸ Sl.of_own hso)
      rw [HSP.out]
      obtain ⟨ix, hix⟩ := info_parts rx_info
      clear hso hb2'
      go_wp2
      go_loopw [3, 5] (fun v q wr => SchRel L w2 v q wr) (fun _ q _ => L.length - (intOf q).toNat)
      case atStart => exact ⟨0, Nat.zero_le _, rfl, OwnX.nil _ _, Below.refl _ _⟩
      case round =>
        obtain ⟨i, hi, rfl, hox, hbr⟩ := hrel
        have hbwr := bel2 hb2 hbr
        by_cases hin : i = L.length
        · subst hin
          rw [List.take_length] at hox
          obtain ⟨va, vn, vc, rfl⟩ := hox.form
          have HSEQ := Lib.hid (Seq_res wr hox HPL.out.1 HPL.out.2)
          clear hox hbr
          go_wp2_with (go_at_call 15; refine HSEQ.out.mono ?_)
          rintro e w3 ⟨cc3, rfl, hv3, hb3'⟩
          rw [HX.out] at hv3
          have HVX := Lib.hid hv3
          have hb3 := bel2 hbwr hb3'
          clear HSEQ hb3' hv3
          go_wp2_with (go_at_call 11; refine (HSH.out _ _ _ HVX.out (HT.out.keep hb3)).mono ?_)
          first | rintro e w4 rfl hb4' | rintro e w4 ⟨rfl, hb4'⟩
          have hb4 := bel2 hb3 hb4'
          clear hb4' HVX
          go_wp2_with (go_at_call 19; refine (HRD.out _).mono ?_)
          rintro e w3 ⟨hb3, cc3, rfl, hv3⟩
          obtain ⟨k3, c3, n3, r3, l3, h3, z3, s3, a3, d3, b3, g3, hx3, rfl⟩ := hv3.box
          have HV3 := Lib.hid hv3
          clear hv3
          unfold rxc at HV3 ⊢
          subst hx3
          obtain ⟨w5, hw5⟩ : ∃ w5, w5 = w3.alloc (.cells #[.int .i64 k3, .string ⟨(c3).toArray⟩, .bool n3, .slice a3 r3.length d3, .int .i64 l3, .int .i64 h3, .bool z3, .slice b3 s3.length g3] 25) := ⟨_, rfl⟩
          have hB5 : Below w3.heap.size w3 w5 := by rw [hw5]; exact (Below.refl _ _).alloc (Nat.le_refl _) _
          have hq5 : w5.heap[w3.heap.size]? = some (.cells #[.int .i64 k3, .string ⟨(c3).toArray⟩, .bool n3, .slice a3 r3.length d3, .int .i64 l3, .int .i64 h3, .bool z3, .slice b3 s3.length g3] 25 (0, 0)) := by rw [hw5]; exact heap_alloc_new w3 _
          have HQ5 := Lib.hid hq5
          have HV5 := Lib.hid (HV3.out.later hB5)
          have hb5 := bel2 (bel2 hb4 hb3) hB5
          subst hw5
          obtain ⟨y0, y1, y2, y3, y4, y5, y6, y7, _⟩ := bx_cells HQ5.out
          have dT1 : decide (2 * (s.length : Int) < (T.length : Int)) = false := decide_eq_false (by omega)
          have dT2 : decide ((T.length : Int) < (s.length : Int)) = false := decide_eq_false (by omega)
          have gw : IntKind.i64.wrap (2 * (s.length : Int)) = 2 * (s.length : Int) := IntWalk.i64_in _ (by omega)
          go_wp2_with (go_at_call 20; refine (Groups_any _ _ _ (Nat.le_refl _) (by omega) _ _ HV5.out).mono ?_)
          rintro e w6 ⟨rfl, hb6'⟩
          have hg0 : (((Rx.mk k3 c3 n3 r3 l3 h3 z3 s3).groups : Nat) : Int) = 0 := by rw [HGR.out]; rfl
          rw [hg0]
          have hbw6 := bel2 hb5 hb6'
          clear y0 y1 y2 y3 y4 y5 y6 y7
          obtain ⟨y0, y1, y2, y3, y4, y5, y6, y7, _⟩ := bx_cells ((hb6'.block _ (heap_lt HQ5.out)).trans HQ5.out)
          obtain ⟨ra6, rc6, ka6, kc6, he6, _, hks6⟩ := (HV5.out.later hb6').open_
          have he7 := congrArg (fun l => l[7]?) he6
          simp [rxc] at he7
          obtain ⟨rfl, rfl⟩ := he7
          have HKS := Lib.hid hks6
          have hbks := HBKS.out
          have hs3 : s3.length ≤ 61 := by have := Rx.len_parts s3; simp only [Rx.parts] at hxp; omega
          clear he6 hks6 HV5 HQ5 hb6' hb5 hq5 hB5 hb3 hb4 HRD HSH HX HXS HGR hg0 hxp HV3 HPL HSL HSP hb2 hbwr hix
          by_cases hk2 : k3 = 2
          · have g2 : (k3 == 2) = true := beq_iff_eq.2 hk2
            have HBK : Hid (c3 ++ (s3.map Rx.chr).flatten = s) := Lib.hid (by rw [← hbks]; simp [backS, Rx.kind, Rx.chr, Rx.kids, hk2])
            clear hbks hk2
            go_wp2
            
            clear dT1 dT2 gw hT1 hT2
            go_loopw [10, 11] (fun v q wr => SbkRel (c3) s3 w6 v q wr) (fun _ q _ => s3.length - (intOf q).toNat)
            case atStart => exact ⟨0, Nat.zero_le _, rfl, by simp, rfl⟩
            case round =>
              obtain ⟨i, hi, rfl, rfl, rfl⟩ := hrel
              have hbl : ((c3) ++ ((s3.take i).map Rx.chr).flatten).length ≤ 60 := by
                have h := congrArg List.length HBK.out
                have h2 : ((c3) ++ (s3.map Rx.chr).flatten).length = ((c3) ++ ((s3.take i).map Rx.chr).flatten).length + ((s3.drop i).map Rx.chr).flatten.length := by
                  rw [← List.length_append, List.append_assoc, ← List.flatten_append, ← List.map_append, List.take_append_drop]
                omega
              by_cases hin : i = s3.length
              · subst hin
                have he : ((c3) ++ ((s3.take s3.length).map Rx.chr).flatten) = s := by rw [List.take_length]; exact HBK.out
                rw [he]
                clear he hbl y0 y1 y2 y3 y4 y5 y6
                go_wp2_with (go_at_call 10; refine (HAW.out _ (HT.out.keep hbw6)).mono ?_; rintro e w9 ⟨rfl, hb9⟩)
                go_ret
                exact ⟨rfl, bel2 hbw6 hb9⟩
              · obtain ⟨y, hy⟩ : ∃ y, s3[i]? = some y := ⟨_, List.getElem?_eq_getElem (by omega)⟩
                have hne : ((i : Int) < s3.length) := by omega
                obtain ⟨yk, yc, yn, yr, yl, yh, yz, ys⟩ := y
                obtain ⟨bb, oo, ra, rc, ka, kc, hab, _, hblt, _, _, _, _, c1, _⟩ := HKS.out.cells hy
                have hle : ((c3) ++ ((s3.take (i + 1)).map Rx.chr).flatten) = ((c3) ++ ((s3.take i).map Rx.chr).flatten) ++ yc := by
                  rw [take_snoc hy]; simp [Rx.chr]
                have hyl : yc.length ≤ 60 := by
                  have h := congrArg List.length HBK.out
                  have h2 : ((c3) ++ (s3.map Rx.chr).flatten).length = ((c3) ++ ((s3.take (i + 1)).map Rx.chr).flatten).length + ((s3.drop (i + 1)).map Rx.chr).flatten.length := by
                    rw [← List.length_append, List.append_assoc, ← List.flatten_append, ← List.map_append, List.take_append_drop]
                  rw [hle] at h2
                  have h3 : (((c3) ++ ((s3.take i).map Rx.chr).flatten) ++ yc).length = ((c3) ++ ((s3.take i).map Rx.chr).flatten).length + yc.length := List.length_append
                  omega
                have HLE := Lib.hid hle
                obtain ⟨acc, hacc⟩ : ∃ acc, (c3) ++ ((s3.take i).map Rx.chr).flatten = acc := ⟨_, rfl⟩
                rw [hacc] at hbl HLE ⊢
                clear hy hle hacc
                subst hab
                go_wp2
                go_roundw
                case rel => exact ⟨i + 1, by omega, by go_num, by rw [HLE.out], rfl⟩
                case measure => simp [intOf]; omega
          · have g2 : (k3 == 2) = false := beq_eq_false_iff_ne.2 hk2
            have HBK : Hid (([] : Str) ++ (s3.map Rx.chr).flatten = s) := Lib.hid (by rw [← hbks]; simp [backS, Rx.kind, Rx.kids, hk2])
            clear hbks hk2
            go_wp2
            
            clear dT1 dT2 gw hT1 hT2
            go_loopw [10, 11] (fun v q wr => SbkRel (([] : Str)) s3 w6 v q wr) (fun _ q _ => s3.length - (intOf q).toNat)
            case atStart => exact ⟨0, Nat.zero_le _, rfl, by simp, rfl⟩
            case round =>
              obtain ⟨i, hi, rfl, rfl, rfl⟩ := hrel
              have hbl : ((([] : Str)) ++ ((s3.take i).map Rx.chr).flatten).length ≤ 60 := by
                have h := congrArg List.length HBK.out
                have h2 : ((([] : Str)) ++ (s3.map Rx.chr).flatten).length = ((([] : Str)) ++ ((s3.take i).map Rx.chr).flatten).length + ((s3.drop i).map Rx.chr).flatten.length := by
                  rw [← List.length_append, List.append_assoc, ← List.flatten_append, ← List.map_append, List.take_append_drop]
                omega
              by_cases hin : i = s3.length
              · subst hin
                have he : ((([] : Str)) ++ ((s3.take s3.length).map Rx.chr).flatten) = s := by rw [List.take_length]; exact HBK.out
                rw [he]
                clear he hbl y0 y1 y2 y3 y4 y5 y6
                go_wp2_with (go_at_call 10; refine (HAW.out _ (HT.out.keep hbw6)).mono ?_; rintro e w9 ⟨rfl, hb9⟩)
                go_ret
                exact ⟨rfl, bel2 hbw6 hb9⟩
              · obtain ⟨y, hy⟩ : ∃ y, s3[i]? = some y := ⟨_, List.getElem?_eq_getElem (by omega)⟩
                have hne : ((i : Int) < s3.length) := by omega
                obtain ⟨yk, yc, yn, yr, yl, yh, yz, ys⟩ := y
                obtain ⟨bb, oo, ra, rc, ka, kc, hab, _, hblt, _, _, _, _, c1, _⟩ := HKS.out.cells hy
                have hle : ((([] : Str)) ++ ((s3.take (i + 1)).map Rx.chr).flatten) = ((([] : Str)) ++ ((s3.take i).map Rx.chr).flatten) ++ yc := by
                  rw [take_snoc hy]; simp [Rx.chr]
                have hyl : yc.length ≤ 60 := by
                  have h := congrArg List.length HBK.out
                  have h2 : ((([] : Str)) ++ (s3.map Rx.chr).flatten).length = ((([] : Str)) ++ ((s3.take (i + 1)).map Rx.chr).flatten).length + ((s3.drop (i + 1)).map Rx.chr).flatten.length := by
                    rw [← List.length_append, List.append_assoc, ← List.flatten_append, ← List.map_append, List.take_append_drop]
                  rw [hle] at h2
                  have h3 : (((([] : Str)) ++ ((s3.take i).map Rx.chr).flatten) ++ yc).length = ((([] : Str)) ++ ((s3.take i).map Rx.chr).flatten).length + yc.length := List.length_append
                  omega
                have HLE := Lib.hid hle
                obtain ⟨acc, hacc⟩ : ∃ acc, (([] : Str)) ++ ((s3.take i).map Rx.chr).flatten = acc := ⟨_, rfl⟩
                rw [hacc] at hbl HLE ⊢
                clear hy hle hacc
                subst hab
                go_wp2
                go_roundw
                case rel => exact ⟨i + 1, by omega, by go_num, by rw [HLE.out], rfl⟩
                case measure => simp [intOf]; omega
        · obtain ⟨p, hp⟩ : ∃ p, L[i]? = some p := ⟨_, List.getElem?_eq_getElem (by omega)⟩
          have hlt := hox.lt
          obtain ⟨va, vn, vc, rfl⟩ := hox.form
          obtain ⟨csst, hct, hvt⟩ := hox
          obtain ⟨bb, oo, rfl, hbb, k0⟩ := (HSL.out.keep hbr).str hp
          have hne : ((i : Int) < L.length) := by omega
          have hbn : Below wr.heap.size wr (wr.alloc (.cells (rxc 2 p false none 0 0 0 0 false none 0 0).toArray 25)) := (Below.refl _ _).alloc (Nat.le_refl _) _
          have ho6 := own_below hct hbn
          have hsl6 := Sl.lit (n := 1) (sz := 8) (heap_alloc_new wr (.cells (rxc 2 p false none 0 0 0 0 false none 0 0).toArray 25)) rfl
          have hrv6 := hvt.later hbn
          have hcv6 : RxV (wr.alloc (.cells (rxc 2 p false none 0 0 0 0 false none 0 0).toArray 25)) (fun b => w2.heap.size ≤ b ∧ (Value.slice va vn vc).ownBlock ≠ some b) (rxc 2 p false none 0 0 0 0 false none 0 0) (chrR p) := RxV.close (rs := []) (ks := []) (SlS.none_ _ _ _ _) ⟨[], SlS.none_ _ _ _ _, .nil⟩
          have hone := hcv6.one
          have hzr := hbr.size
          have htk : ((L.take (i + 1)).map chrR) = (L.take i).map chrR ++ [chrR p] := by rw [take_snoc hp]; simp
          have hll : ((L.take i).map chrR).length ≤ 60 := by simp; omega
          unfold rxc at ho6 hsl6 hrv6 hcv6 hone hbn
          have HO6 := Lib.hid ho6; have HSL6 := Lib.hid hsl6; have HRV6 := Lib.hid hrv6; have HONE := Lib.hid hone; have HTK := Lib.hid htk
          have HCV6 := Lib.hid hcv6
          clear ho6 hsl6 hrv6 hcv6 hone hct hvt htk hp
          go_wp2_with (at_builtin; refine wpList_appM w2.heap.size 25 rfl _ _ 23 rfl Tryd.underlying23 hix rfl (by decide) rfl HO6.out rfl HSL6.out HONE.out (by omega) (by omega) (by decide) (by simp; omega) ?_)
          intro v7 w7 ho7 hq7 hb7 hmv
          have hox7 : OwnX w7 w2.heap.size v7 ((L.take (i + 1)).map chrR) := by
            rw [HTK.out]
            refine OwnX.app (ds := [_]) (m := 1) HRV6.out (.cons HCV6.out .nil) rfl ?_ hq7 hmv
            simpa [Nat.min_eq_left hi] using ho7
          have hbr7 : Below w2.heap.size w2 w7 := (hbr.trans (hbn.mono hzr)).trans (hb7.mono (by first | (simp; done) | (simp; omega)))
          clear ho7 hq7 hb7 hmv
          go_wp2
          go_roundw
          case rel => exact ⟨i + 1, by omega, by go_num, hox7, hbr7⟩
          case measure => simp [intOf]; omega
end Go.Proofs.YtpggnfpjjppbmaaDoor
