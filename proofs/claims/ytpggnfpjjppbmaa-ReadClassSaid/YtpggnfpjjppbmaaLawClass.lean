/- walk of gimletlaw14.ReadClass -/
import Derived.Test.YtpggnfpjjppbmaaLawTimes
import Derived.Test.YtpggnfpjjppbmaaBP
import Derived.Test.YtpggnfpjjppbmaaBO
import Derived.Test.YtpggnfpjjppbmaaExt
import Derived.BigRegion
set_option maxRecDepth 100000
namespace Go.Proofs.Ytpggnfpjjppbmaa
open Go.RowKit
def alS : Str := [97, 98, 99, 100, 101, 102, 103, 104, 105, 106, 107, 108, 109, 110, 111, 112, 113, 114, 115, 116, 117, 118, 119, 120, 121, 122, 48, 49, 50, 51, 52, 53, 54, 55, 56, 57]
def alC (a : Nat) : UInt8 := alS.getD a 97
theorem alC_ok {a : Nat} (h : a < 36) : alB (alC a) := by
  have : ∀ a < 36, (48 ≤ (alC a).toNat ∧ (alC a).toNat ≤ 57) ∨ (97 ≤ (alC a).toNat ∧ (alC a).toNat ≤ 122) := by decide
  exact this a h
theorem alS_at {a : Nat} (h : a < 36) : List.take 1 (List.drop a alS) = [alC a] := by
  have : ∀ a < 36, List.take 1 (List.drop a alS) = [alC a] := by decide
  exact this a h
def mnS (a b : Str) : Str := if leS a b = true then a else b
theorem run_min_S {P : Program} (w : World) (ts : Array TypeId) (t : TypeId) (x y : Str) : (Builtin.min_ ts t #[.string ⟨(x).toArray⟩, .string ⟨(y).toArray⟩]).run P w = .ok (.string ⟨(mnS x y).toArray⟩) w := by
  unfold mnS leS
  cases h : Op.bytesLess x y <;> cases h2 : x == y <;> simp [Builtin.min_, Builtin.min2, Op.stringOp, asBool, h, h2]
/-- The piece that two numbers tell. -/
def mkP (a b : Nat) : Pc :=
  let f := if (alC b).toNat < (alC a).toNat then alC b else alC a
  let t := if (alC a).toNat < (alC b).toNat then alC b else alC a
  ⟨f, t, decide (f = t) && decide (a % 2 = 0)⟩
theorem mkP_ok {a b : Nat} (ha : a < 36) (hb : b < 36) : (mkP a b).ok := by
  have h1 := alC_ok ha
  have h2 := alC_ok hb
  unfold mkP Pc.ok
  simp only
  refine ⟨?_, ?_, ?_, fun h => by simp only [Bool.and_eq_true, decide_eq_true_eq] at h; exact h.1⟩
  · split <;> assumption
  · split <;> assumption
  · split <;> split <;> omega
theorem mkP_min (a b : Nat) : mnS [alC a] [alC b] = [(mkP a b).f] := by
  have e : leS [alC a] [alC b] = decide (¬ (alC b).toNat < (alC a).toNat) := by
    unfold leS
    rw [less_one, Bool.eq_iff_iff]
    simp only [Bool.or_eq_true, decide_eq_true_eq, beq_iff_eq]
    constructor
    · rintro (h | h)
      · omega
      · injection h with h; rw [h]; omega
    · intro h
      by_cases h2 : (alC a).toNat < (alC b).toNat
      · exact .inl h2
      · exact .inr (by rw [UInt8.toNat_inj.1 (show (alC a).toNat = (alC b).toNat by omega)])
  unfold mnS mkP
  rw [e]
  by_cases h : (alC b).toNat < (alC a).toNat
  · rw [if_neg (by simpa using h)]; simp only [if_pos h]
  · rw [if_pos (by simpa using h)]; simp only [if_neg h]
theorem mkP_max (a b : Nat) : mxS [alC a] [alC b] = [(mkP a b).t] := by
  unfold mxS mkP
  rw [less_one]
  by_cases h : (alC a).toNat < (alC b).toNat
  · rw [if_pos (decide_eq_true h)]; simp only [if_pos h]
  · rw [if_neg (by simpa using h)]; simp only [if_neg h]
def pcO (p : Int × Int) : Pc := mkP (low p.1 36).toNat (low p.2 36).toNat
theorem pcs_len (P : List Pc) : (P.flatMap Pc.str).length ≤ 3 * P.length := by
  induction P with
  | nil => simp
  | cons p P ih =>
    rw [List.flatMap_cons, List.length_append, List.length_cons]
    have : p.str.length ≤ 3 := by unfold Pc.str; split <;> simp
    omega
def RcRel (xs : List (Int × Int)) (w : World) (vt vu vw vi : Value) (wr : World) : Prop :=
  ∃ (i : Nat) (P : List Pc), i ≤ xs.length ∧ P = (xs.take i).map pcO ∧ vi = .int .i64 i ∧ vt = .string ⟨(P.flatMap Pc.str).toArray⟩ ∧ vu = .string ⟨(P.reverse.flatMap Pc.str).toArray⟩ ∧ Below w.heap.size w wr ∧ wr.ownsRow w.heap.size 44 2 vw P.length (rcells (P.map Pc.row))
theorem SameD {wq W : World} {S S' : Nat → Prop} {cc cc' : List Value} {x : Rx} {b : Nat} {cs : Array Value} (hW : Below wq.heap.size wq W) (hq : wq.heap[b]? = some (.cells cs 26 (0, 0))) (hs : x.small) (h : RxV W S cc x) (h' : RxV W S' cc' x) :
    Calls Try.prog 15 #[.agg cc.toArray, .agg cc'.toArray] W fun e w' => e = .returned (.bool true) ∧ Below wq.heap.size wq w' ∧ w'.heap[b]? = some (.cells cs 26 (0, 0)) :=
  (Same_eq W hs h h').mono fun _ _ ⟨h1, h2⟩ => by
    have hb := hW.trans (h2.mono hW.size)
    exact ⟨h1, hb, (hb.block _ (heap_lt hq)).trans hq⟩
theorem UnionD {wq W : World} {B : Nat} {a : Option Addr} {n c : Nat} {rs : List Row} {b : Nat} {cs : Array Value} (hW : Below wq.heap.size wq W) (hq : wq.heap[b]? = some (.cells cs 26 (0, 0))) (h : wq.ownsRow B 44 2 (.slice a n c) n (rcells rs)) (hlen : ∀ r ∈ rs, r.1.length ≤ 1000000 ∧ r.2.length ≤ 1000000) (hn : n ≤ 1000000) :
    Calls Try.prog 23 #[.slice a n c] W fun e w' => ∃ a' c', e = .returned (.slice a' (unionM rs).length c') ∧ SlS w' Any a' 2 (unionM rs).length (rcells (unionM rs)) ∧ Below wq.heap.size wq w' ∧ w'.heap[b]? = some (.cells cs 26 (0, 0)) :=
  (Union_res a n c rs W (own_below h hW) (by omega) hlen hn).mono fun _ _ ⟨a', c', h1, h2, h3⟩ => by
    have hb := hW.trans (h3.mono hW.size)
    exact ⟨a', c', h1, h2.mono fun _ _ _ => trivial, hb, (hb.block _ (heap_lt hq)).trans hq⟩
theorem set_v {W : World} {S : Nat → Prop} {a : Option Addr} {rs : List Row} {ng : Bool} {k : Nat} (h : SlS W S a 2 rs.length (rcells rs)) : RxV W S [.int .i64 4, .string ⟨#[]⟩, .bool ng, .slice a rs.length k, .int .i64 0, .int .i64 0, .bool false, .slice none 0 0] (setR rs ng) :=
  RxV.close (ks := []) h ⟨[], SlS.none_ _ _ _ _, .nil⟩
set_option maxHeartbeats 4000000 in
theorem ReadClass_walk (a0 : Option Addr) (c0 : Nat) (xs : List (Int × Int)) (ng : Bool) (w : World) (hs : Sl w w.heap.size a0 2 xs.length (pcells2 xs)) (hn : xs.length ≤ maxLen) :
    Calls Try.prog 8 #[.slice a0 xs.length c0, .bool ng] w fun e w' => e = .returned (.bool true) ∧ Below w.heap.size w w' := by
  unfold maxLen at hn
  by_cases h1 : xs.length ≤ 10
  · have HS := Lib.hid hs
    obtain ⟨ir, hir⟩ := info_parts row_info
    clear hs
    go_enter Try.func8, Try.ntmps8
    go_upto_region 3 with fail
    go_cut [5] from 5 to 5 (fun a wx => a = .string ⟨(alS).toArray⟩ ∧ wx = w)
    case first =>
      go_wp2_with fail
      go_meet
      exact ⟨rfl, rfl⟩
    case rest =>
      obtain ⟨rfl, hwc⟩ := hcut
      replace hwc := hwc.symm
      subst hwc
      go_wp2
      go_loopw [6, 7, 8, 9] (fun t u v q wr => RcRel xs w t u v q wr) (fun _ _ _ q _ => xs.length - (intOf q).toNat)
      case atStart => exact ⟨0, [], by omega, rfl, rfl, rfl, rfl, Below.refl _ _, World.ownsRow_nil _ _ _ _⟩
      case round =>
        obtain ⟨i, P, hi, hP, rfl, rfl, rfl, hb, hown⟩ := hrel
        have HP := Lib.hid hP
        clear hP
        by_cases hin : i = xs.length
        · subst hin
          have hPx : P = xs.map pcO := by rw [HP.out, List.take_length]
          have hPl : P.length ≤ 10 := by rw [hPx, List.length_map]; exact h1
          have hok : ∀ p ∈ P, p.ok := by
            rw [hPx]
            intro p hp
            obtain ⟨q, _, rfl⟩ := List.mem_map.1 hp
            have l1 := low_lt q.1 (n := 36) (by omega)
            have l2 := low_lt q.2 (n := 36) (by omega)
            exact mkP_ok (by omega) (by omega)
          have hokr : ∀ p ∈ P.reverse, p.ok := fun p hp => hok p (List.mem_reverse.1 hp)
          have e1 := read_class hok hPl ng
          have e2 := read_class hokr (by rw [List.length_reverse]; exact hPl) ng
          rw [union_rev] at e2
          have hT := pcs_len P
          have hU := pcs_len P.reverse
          rw [List.length_reverse] at hU
          have HPO := Lib.hid hPx
          have HSX := Lib.hid (readM_small e1).1
          generalize hTT : P.flatMap Pc.str = T at hT e1
          generalize hUU : P.reverse.flatMap Pc.str = U at hU e2
          have hh : (hatS ng).length ≤ 1 := by cases ng <;> decide
          have HX1 := Lib.hid (readH e1 (by simp only [List.length_append, List.length_cons, List.length_nil]; omega))
          have HX2 := Lib.hid (readH e2 (by simp only [List.length_append, List.length_cons, List.length_nil]; omega))
          obtain ⟨X, hX⟩ : ∃ X, setR (unionM (P.map Pc.row)) ng = X := ⟨_, rfl⟩
          rw [hX] at HX1 HX2 HSX
          have HXX := Lib.hid hX
          have HOWN := Lib.hid hown
          obtain ⟨va, vc, rfl⟩ := own_form hown
          clear hown e1 e2 hTT hUU hX hPx HP hok hokr
          go_upto_if 89 with fail
          go_cut [15] from 89 to 90 (fun x wx => x = .string ⟨(91 :: hatS ng).toArray⟩ ∧ wx = wr)
          case first =>
            cases ng with
            | true =>
              go_wp2_with fail
              go_meet
              exact ⟨rfl, rfl⟩
            | false =>
              go_wp2_with fail
              go_meet
              exact ⟨rfl, rfl⟩
          case rest =>
            obtain ⟨rfl, rfl⟩ := hcut
            go_wp2_with (go_at_call 13; refine (HX1.out _ _ (by simp)).mono ?_)
            rintro e w5 ⟨hb5, cc5, rfl, hv5⟩
            obtain ⟨k5, c5, n5, r5, l5, h5, z5, s5, a5, d5, b5, g5, hx5, rfl⟩ := hv5.box
            have HV5 := Lib.hid hv5
            have HX5 := Lib.hid hx5
            clear hv5 hx5
            unfold rxc at HV5 ⊢
            go_wp2_with (go_at_call 13; refine (HX2.out _ _ (by simp)).mono ?_)
            rintro e w6 ⟨hb6, cc6, rfl, hv6⟩
            obtain ⟨k6, c6, n6, r6, l6, h6, z6, s6, a6, d6, b6, g6, hx6, rfl⟩ := hv6.box
            have HV6 := Lib.hid hv6
            have HX6 := Lib.hid hx6
            clear hv6 hx6
            unfold rxc at HV6 ⊢
            go_upto_region 22 with fail
            obtain ⟨wq, hwq⟩ : ∃ wq, wq = w6.alloc (.cells #[.int .i64 k6, .string ⟨(c6).toArray⟩, .bool n6, .slice a6 r6.length d6, .int .i64 l6, .int .i64 h6, .bool z6, .slice b6 s6.length g6] 26) := ⟨_, rfl⟩
            have hB5 : Below w5.heap.size w5 (w5.alloc (.cells #[.int .i64 k5, .string ⟨(c5).toArray⟩, .bool n5, .slice a5 r5.length d5, .int .i64 l5, .int .i64 h5, .bool z5, .slice b5 s5.length g5] 26)) := (Below.refl _ _).alloc (Nat.le_refl _) _
            have hB6 : Below w6.heap.size w6 wq := by rw [hwq]; exact (Below.refl _ _).alloc (Nat.le_refl _) _
            rw [← hwq]
            have hz5 := hb5.size
            have hz6 := hb6.size
            simp only [World.size_alloc] at hz6
            have hw6 : Below w5.heap.size w5 wq := (hB5.trans (hb6.mono (by simp))).trans (hB6.mono (by omega))
            have hcq : Below wc.heap.size wc wq := hb5.trans (hw6.mono hz5)
            have hbw : Below w.heap.size w wq := bel2 hb hcq
            have q5 : wq.heap[w5.heap.size]? = some (.cells #[.int .i64 k5, .string ⟨(c5).toArray⟩, .bool n5, .slice a5 r5.length d5, .int .i64 l5, .int .i64 h5, .bool z5, .slice b5 s5.length g5] 26 (0, 0)) := by
              have e1 := heap_alloc_new w5 (.cells #[.int .i64 k5, .string ⟨(c5).toArray⟩, .bool n5, .slice a5 r5.length d5, .int .i64 l5, .int .i64 h5, .bool z5, .slice b5 s5.length g5] 26)
              have e2 := (hb6.block _ (heap_lt e1)).trans e1
              exact (hB6.block _ (heap_lt e2)).trans e2
            have q6 : wq.heap[w6.heap.size]? = some (.cells #[.int .i64 k6, .string ⟨(c6).toArray⟩, .bool n6, .slice a6 r6.length d6, .int .i64 l6, .int .i64 h6, .bool z6, .slice b6 s6.length g6] 26 (0, 0)) := by rw [hwq]; exact heap_alloc_new w6 _
            have HVX : Hid (RxV wq Any _ X) := Lib.hid ((HV5.out.later hw6).mono fun _ _ _ => trivial)
            have HVY : Hid (RxV wq Any _ X) := Lib.hid ((HV6.out.later hB6).mono fun _ _ _ => trivial)
            have HQ5 := Lib.hid q5
            have HOQ := Lib.hid (own_below HOWN.out hcq)
            have HBW := Lib.hid hbw
            have hle : ∀ r ∈ P.map Pc.row, r.1.length ≤ 1000000 ∧ r.2.length ≤ 1000000 := by
              intro r hr; obtain ⟨p, _, rfl⟩ := List.mem_map.1 hr; exact ⟨by simp [Pc.row], by simp [Pc.row]⟩
            have HLE := Lib.hid hle
            obtain ⟨x0, x1, x2, x3, x4, x5, x6, x7, x8⟩ := bx_cells q5
            obtain ⟨y0, y1, y2, y3, y4, y5, y6, y7, y8⟩ := bx_cells q6
            clear hwq hB5 hB6 hb6 hb5 hw6 hcq hbw q5 q6 HV5 HV6 HX5 HX6 HX1 HX2 HOWN hle x8 y8 hb hz5 hz6
            go_region_with (first
              | (go_at_call 23; refine (UnionD (wq := wq) (by (repeat (first | with_reducible exact Below.refl _ _ | with_reducible assumption | (refine Below.setCell ?_ (by simp) _) | (refine Below.alloc ?_ (by first | (simp; done) | (simp; omega)) _) | (refine Below.drew ?_)))) HQ5.out HOQ.out HLE.out (by omega)).mono ?_; rintro e w8 ⟨ua, uc, rfl, hus, hB8, hq8⟩; have HUS := Lib.hid hus; obtain ⟨t0, t1, t2, t3, t4, t5, t6, t7, t8⟩ := bx_cells hq8; clear hus hq8 t8)
              | (go_at_call 15; refine (SameD (wq := wq) (S := Any) (S' := Any) (by (repeat (first | with_reducible exact Below.refl _ _ | with_reducible assumption | (refine Below.setCell ?_ (by simp) _) | (refine Below.alloc ?_ (by first | (simp; done) | (simp; omega)) _) | (refine Below.drew ?_)))) HQ5.out HSX.out ?_ ?_).mono ?_; (exact HVX.out.later (by (repeat (first | with_reducible exact Below.refl _ _ | with_reducible assumption | (refine Below.setCell ?_ (by simp) _) | (refine Below.alloc ?_ (by first | (simp; done) | (simp; omega)) _) | (refine Below.drew ?_))))); (first | exact HVY.out.later (by (repeat (first | with_reducible exact Below.refl _ _ | with_reducible assumption | (refine Below.setCell ?_ (by simp) _) | (refine Below.alloc ?_ (by first | (simp; done) | (simp; omega)) _) | (refine Below.drew ?_)))) | (rw [← HXX.out]; exact (set_v HUS.out).later (by (repeat (first | with_reducible exact Below.refl _ _ | with_reducible assumption | (refine Below.setCell ?_ (by simp) _) | (refine Below.alloc ?_ (by first | (simp; done) | (simp; omega)) _) | (refine Below.drew ?_)))))); rintro e w7 ⟨rfl, hB7, hq7⟩; obtain ⟨s0, s1, s2, s3, s4, s5, s6, s7, s8⟩ := bx_cells hq7; clear hq7 s8)
              | (go_at_call 12; refine (awake_lit HBW.out (by (repeat (first | with_reducible exact Below.refl _ _ | with_reducible assumption | (refine Below.setCell ?_ (by simp) _) | (refine Below.alloc ?_ (by first | (simp; done) | (simp; omega)) _) | (refine Below.drew ?_))))).mono ?_; rintro e w9 ⟨rfl, hb9⟩))
            all_goals (go_wp2; go_ret; exact ⟨rfl, hb9⟩)
        · have hin' : i < xs.length := by omega
          obtain ⟨p, hp⟩ : ∃ p, xs[i]? = some p := ⟨_, List.getElem?_eq_getElem hin'⟩
          obtain ⟨b, o, rfl, hbl, y0, y1⟩ := (HS.out.keep hb).pair hp rfl
          obtain ⟨q1, q2⟩ := p
          have l1 := low_lt q1 (n := 36) (by omega)
          have l2 := low_lt q2 (n := 36) (by omega)
          obtain ⟨a, ha⟩ : ∃ a : Nat, low q1 36 = a := ⟨(low q1 36).toNat, by omega⟩
          obtain ⟨b', hb'⟩ : ∃ a : Nat, low q2 36 = a := ⟨(low q2 36).toNat, by omega⟩
          have HA := Lib.hid ha
          have HB := Lib.hid hb'
          have HOWN := Lib.hid hown
          clear hown ha hb'
          go_upto_region 9 with fail
          go_cut [10, 11] from 24 to 88 (fun x y wx => x = .int .i64 a ∧ y = .int .i64 b' ∧ Below wr.heap.size wr wx)
          case first =>
            have d0 : ∀ x : ExtOf wr, x.val.cell? ⟨b, o + i * 2, none⟩ = some (.int .i64 q1) := ExtOf.cell y0
            have d1 : ∀ x : ExtOf wr, x.val.cell? ⟨b, o + i * 2 + 1, none⟩ = some (.int .i64 q2) := ExtOf.cell y1
            have HLG : Hid (∀ (q : Int) (W : World), Calls Try.prog 21 #[.int .i64 q, .int .i64 36] W fun e w' => e = .returned (.int .i64 (low q 36)) ∧ W = w') := Lib.hid fun q W => Low_any q 36 W (by decide) (by decide)
            refine wp_region_ext (by kernel_rfl) (by kernel_rfl) ?_
            repeat (go_big_quiet_step ((go_at_call 21; exact ext_call_same (HLG.out _ _))))
            refine wpQuiet_nil ?_
            rintro _ ⟨xq, rfl⟩
            go_wp2_with fail
            go_meet
            exact ⟨by rw [HA.out], by rw [HB.out], xq.ext⟩
          case rest =>
            obtain ⟨rfl, rfl, hbc⟩ := hcut
            have e1 := mkP_min a b'
            have e2 := mkP_max a b'
            have hpo : pcO (q1, q2) = mkP a b' := by unfold pcO; rw [HA.out, HB.out]; rfl
            have hs : (mkP a b').s = (decide ((mkP a b').f = (mkP a b').t) && decide (a % 2 = 0)) := rfl
            generalize mkP a b' = pc at e1 e2 hpo hs
            have ha36 : a < 36 := by have := HA.out; omega
            have hb36 : b' < 36 := by have := HB.out; omega
            have hlen : alS.length = 36 := rfl
            have s1 := alS_at ha36
            have s2 := alS_at hb36
            have r1 := fun w => run_min_S (P := Try.prog) w #[9, 9] 9 [alC a] [alC b']
            have r2 := fun w => run_max_S (P := Try.prog) w #[9, 9] 9 [alC a] [alC b']
            rw [e1] at r1
            rw [e2] at r2
            go_upto_region 10 with fail
            go_cut [12, 13] from 24 to 88 (fun x y wx => x = .string ⟨([pc.f]).toArray⟩ ∧ y = .string ⟨([pc.t]).toArray⟩ ∧ wx = wc.drew)
            case first =>
              go_region
              all_goals (go_wp2_with fail; go_meet; exact ⟨rfl, rfl, rfl⟩)
            case rest =>
              obtain ⟨rfl, rfl, hwd⟩ := hcut
              have hbd : Below wr.heap.size wr wc := by rw [hwd]; exact hbc.drew
              clear hwd hbc
              have hPl : P.length = i := by rw [HP.out]; simp; omega
              have hT := pcs_len P
              have hU := pcs_len P.reverse
              rw [List.length_reverse] at hU
              generalize hTT : P.flatMap Pc.str = T at hT
              generalize hUU : P.reverse.flatMap Pc.str = U at hU
              have HTT := Lib.hid hTT
              have HUU := Lib.hid hUU
              have HPO := Lib.hid hpo
              have HHS := Lib.hid hs
              have hbw := bel2 hb hbd
              have HOWN2 := Lib.hid (own_below HOWN.out hbd)
              clear hTT hUU hpo hs e1 e2 r1 r2 s1 s2 hlen
              have hbn : Below wc.heap.size wc (wc.alloc (.cells #[.string ⟨([pc.f]).toArray⟩, .string ⟨([pc.t]).toArray⟩] 44)) := (Below.refl _ _).alloc (Nat.le_refl _) _
              have HO6 := Lib.hid (own_below HOWN2.out hbn)
              have HSL6 : Hid (Sl (wc.alloc (.cells #[.string ⟨([pc.f]).toArray⟩, .string ⟨([pc.t]).toArray⟩] 44)) (wc.alloc (.cells #[.string ⟨([pc.f]).toArray⟩, .string ⟨([pc.t]).toArray⟩] 44)).heap.size (some ⟨wc.heap.size, 0, none⟩) 2 1 (rcells [pc.row])) := Lib.hid (Sl.lit (n := 1) (sz := 2) (heap_alloc_new wc _) rfl)
              have hbw6 := bel2 hbw hbn
              have hz6 := hbw6.size
              clear hbn HOWN HOWN2
              by_cases hft : pc.f = pc.t
              · have f1 : ([pc.f] == [pc.t]) = true := by rw [hft]; exact beq_self_eq_true _
                by_cases hev : a % 2 = 0
                · have hst : pc.str = [pc.f] := by unfold Pc.str; rw [HHS.out]; simp [hft, hev]
                  have f2 : ((a : Int) % 2 == 0) = true := by rw [beq_iff_eq]; omega
                  have HST := Lib.hid hst
                  have HFT := Lib.hid hft
                  have HEV := Lib.hid hev
                  clear hft hst hev HHS
                  go_wp2_with (at_builtin; refine wpList_appM w.heap.size 44 rfl _ _ 23 rfl Try.underlying23 hir rfl (by decide) rfl (HO6.out) rfl (HSL6.out) (rcells_one [pc.row]) (by omega) (by omega) (by decide) hz6 ?_)
                  intro v7 w7 hown7 hq7 hb7 hmv
                  have hb8 := hbw6.trans hb7
                  have hown8 : w7.ownsRow w.heap.size 44 2 v7 (P ++ [pc]).length (rcells ((P ++ [pc]).map Pc.row)) := by
                    rw [List.length_append, hPl, List.map_append, show rcells (P.map Pc.row ++ [pc].map Pc.row) = rcells (P.map Pc.row) ++ rcells [pc.row] from by simp [rcells]]; exact hown7
                  clear hown7 hq7 hb7 hmv
                  go_wp2
                  go_roundw
                  case rel =>
                    refine ⟨i + 1, P ++ [pc], by omega, ?_, by go_num, ?_, ?_, hb8, hown8⟩
                    · rw [List.take_add_one, hp, List.map_append, HP.out]; simp [HPO.out]
                    · rw [List.flatMap_append, HTT.out]; simp [HST.out]
                    · rw [flat_rev, HUU.out, HST.out]; simp
                  case measure => simp [intOf]; omega
                · have hst : pc.str = [pc.f, 45, pc.t] := by unfold Pc.str; rw [HHS.out, decide_eq_false hev, Bool.and_false]; rfl
                  have f2 : ((a : Int) % 2 == 0) = false := by rw [beq_eq_false_iff_ne]; omega
                  have HST := Lib.hid hst
                  have HFT := Lib.hid hft
                  have HEV := Lib.hid hev
                  clear hft hst hev HHS
                  go_wp2_with (at_builtin; refine wpList_appM w.heap.size 44 rfl _ _ 23 rfl Try.underlying23 hir rfl (by decide) rfl (HO6.out) rfl (HSL6.out) (rcells_one [pc.row]) (by omega) (by omega) (by decide) hz6 ?_)
                  intro v7 w7 hown7 hq7 hb7 hmv
                  have hb8 := hbw6.trans hb7
                  have hown8 : w7.ownsRow w.heap.size 44 2 v7 (P ++ [pc]).length (rcells ((P ++ [pc]).map Pc.row)) := by
                    rw [List.length_append, hPl, List.map_append, show rcells (P.map Pc.row ++ [pc].map Pc.row) = rcells (P.map Pc.row) ++ rcells [pc.row] from by simp [rcells]]; exact hown7
                  clear hown7 hq7 hb7 hmv
                  go_wp2
                  go_roundw
                  case rel =>
                    refine ⟨i + 1, P ++ [pc], by omega, ?_, by go_num, ?_, ?_, hb8, hown8⟩
                    · rw [List.take_add_one, hp, List.map_append, HP.out]; simp [HPO.out]
                    · rw [List.flatMap_append, HTT.out]; simp [HST.out]
                    · rw [flat_rev, HUU.out, HST.out]; simp
                  case measure => simp [intOf]; omega
              · have f1 : ([pc.f] == [pc.t]) = false := by rw [beq_eq_false_iff_ne]; intro e; injection e with e; exact hft e
                have hst : pc.str = [pc.f, 45, pc.t] := by unfold Pc.str; rw [HHS.out, decide_eq_false hft, Bool.false_and]; rfl
                have hev : True := trivial
                have HST := Lib.hid hst
                have HFT := Lib.hid hft
                have HEV := Lib.hid hev
                clear hft hst hev HHS
                go_wp2_with (at_builtin; refine wpList_appM w.heap.size 44 rfl _ _ 23 rfl Try.underlying23 hir rfl (by decide) rfl (HO6.out) rfl (HSL6.out) (rcells_one [pc.row]) (by omega) (by omega) (by decide) hz6 ?_)
                intro v7 w7 hown7 hq7 hb7 hmv
                have hb8 := hbw6.trans hb7
                have hown8 : w7.ownsRow w.heap.size 44 2 v7 (P ++ [pc]).length (rcells ((P ++ [pc]).map Pc.row)) := by
                  rw [List.length_append, hPl, List.map_append, show rcells (P.map Pc.row ++ [pc].map Pc.row) = rcells (P.map Pc.row) ++ rcells [pc.row] from by simp [rcells]]; exact hown7
                clear hown7 hq7 hb7 hmv
                go_wp2
                go_roundw
                case rel =>
                  refine ⟨i + 1, P ++ [pc], by omega, ?_, by go_num, ?_, ?_, hb8, hown8⟩
                  · rw [List.take_add_one, hp, List.map_append, HP.out]; simp [HPO.out]
                  · rw [List.flatMap_append, HTT.out]; simp [HST.out]
                  · rw [flat_rev, HUU.out, HST.out]; simp
                case measure => simp [intOf]; omega
  · go_enter Try.func8, Try.ntmps8
    go_wp2_with (go_at_call 12; refine (awake_any _).mono ?_; rintro e w4 ⟨rfl, hb4⟩)
    all_goals first
      | (go_ret; exact ⟨rfl, hb4⟩)
      | (exfalso; omega)
end Go.Proofs.Ytpggnfpjjppbmaa
